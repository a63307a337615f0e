/-
  An abstract machine over the given model: pure data in place of memory that came in, numbered blocks in place of memory that the call makes.
  Definitions alone: values, states, operations, code, calls. Soundness is proved in the texts that import this one.
-/
import Derived.WalkKit
import Derived.LoopN
import Derived.Deep.Quiet
import Derived.Orders
namespace Go.Am
open Go

/-- Abstract values. 'v x': this very value. 'sl n l': a slice of n elements over memory that nobody writes, its cells l. 'own z b o n': a slice of n elements of z cells in the call's own block b from cell o on. 'ptr b o': the address of cell o of block b. 'ele l o': the address of cell o of unwritten memory that reads l. -/
inductive AV where
  | any
  | v (x : Value)
  | sl (n : Nat) (l : List AV)
  | own (z b o n : Nat)
  | ptr (b o : Nat)
  | ele (l : List AV) (o : Nat)
  | agg (l : List AV)
  | tup (l : List AV)
  | clo (f : FuncId) (l : List AV)

instance : Inhabited AV := ⟨.any⟩

@[reducible] def AV.i (n : Int) : AV := .v (.int .i64 n)
@[reducible] def AV.b (t : Bool) : AV := .v (.bool t)

/-- A block is its cells; a block that nobody may use any more is none. -/
abbrev Blk := List AV
abbrev Heap := List (Option Blk)
abbrev Env := List (Nat × AV)

def Env.get : Env → Nat → AV
  | [], _ => .any
  | (k, x) :: r, t => if t = k then x else Env.get r t

/-- The newest entry of a slot stands in front. -/
def Env.set (e : Env) (t : Nat) (y : AV) : Env := (t, y) :: e
def Env.put (e : Env) : Option Nat → AV → Env
  | none, _ => e
  | some t, y => e.set t y

def hget (H : Heap) (b : Nat) : Option Blk := (H[b]?).join
def hset (H : Heap) (b : Nat) (x : Option Blk) : Heap := H.set b x

/-! ### Types -/
inductive TyK where
  | int (k : IntKind) | bool | string
  | slice (e : TypeId)
  | array (n : Nat) (e : TypeId)
  | struct (fs : List (Nat × TypeId))
  | other

structure Ty where
  size : Nat
  bytes : Nat
  agg : Bool
  k : TyK
  zero : Option (List Value)

def tyK (d : TypeDesc) : TyK :=
  match d with
  | .int k => .int k
  | .bool => .bool
  | .string => .string
  | .slice e => .slice e
  | .array n e => .array n e
  | .struct fs => .struct (fs.toList.map fun f => (f.offset, f.type))
  | _ => .other

def tyAgg (d : TypeDesc) : Bool :=
  match d with
  | .struct _ | .array _ _ => true
  | _ => false

def tyOf (P : Program) (t : TypeId) : Option Ty :=
  match P.info? t, P.underlying t with
  | some i, some d => some { size := i.size, bytes := i.bytes, agg := tyAgg d, k := tyK d, zero := i.zero.map fun z => z.cells.toList }
  | _, _ => none

def kOf (ty : Option Ty) : Option TyK := ty.map (fun t => t.k)
def tk (P : Program) (t : TypeId) : Option TyK := kOf (tyOf P t)

/-! ### Values -/
def ofV (x : Value) : AV :=
  match x with
  | .agg cs => .agg (cs.toList.map .v)
  | .func (.func f) fi ca => if fi.size = 0 ∧ ca.size = 0 then .clo f [] else .v x
  | x => .v x

def evO (e : Env) : Operand → AV
  | .tmp t => e.get t
  | .const x => ofV x
  | .func f => .clo f []
  | .global _ => .any

/-- The cells of a value that is stored: each a value of one cell. -/
def storable : AV → Bool
  | .v x => x.oneCell'
  | .sl _ _ | .own _ _ _ _ | .ptr _ _ | .ele _ _ | .clo _ _ => true
  | _ => false
def cellsOf : AV → Option (List AV)
  | .agg l => if l.all storable then some l else none
  | x => if storable x then some [x] else none

def isNil : AV → Bool
  | .v (.slice none 0 0) => true
  | _ => false

def partL (ty : Ty) (l : List AV) (o : Nat) : Option AV :=
  if ty.agg then (if o + ty.size ≤ l.length then some (.agg ((l.drop o).take ty.size)) else none)
  else l[o]?

/-! ### Pure operations -/
def intBin (op : BinOp) (k : IntKind) (a b : Int) : Option Value :=
  match op with
  | .add => some (.int k (k.wrap (a + b)))
  | .sub => some (.int k (k.wrap (a - b)))
  | .mul => some (.int k (k.wrap (a * b)))
  | .quo => if b = 0 then none else some (.int k (k.wrap (a.tdiv b)))
  | .rem => if b = 0 then none else some (.int k (a.tmod b))
  | .and => some (.int k (k.wrap (BitVec.ofInt k.bits a &&& BitVec.ofInt k.bits b).toNat))
  | .or => some (.int k (k.wrap (BitVec.ofInt k.bits a ||| BitVec.ofInt k.bits b).toNat))
  | .xor => some (.int k (k.wrap (BitVec.ofInt k.bits a ^^^ BitVec.ofInt k.bits b).toNat))
  | .andNot => some (.int k (k.wrap (BitVec.ofInt k.bits a &&& ~~~ BitVec.ofInt k.bits b).toNat))
  | .eql => some (.bool (a == b))
  | .neq => some (.bool (a != b))
  | .lss => some (.bool (decide (a < b)))
  | .leq => some (.bool (decide (a ≤ b)))
  | .gtr => some (.bool (decide (b < a)))
  | .geq => some (.bool (decide (b ≤ a)))
  | _ => none

def shiftBin (op : BinOp) (k : IntKind) (a b : Int) : Option Value :=
  if b < 0 then none else
  match op with
  | .shl => some (.int k (k.wrap (a * 2 ^ (min b.toNat k.bits))))
  | .shr => some (.int k (a.fdiv (2 ^ (min b.toNat k.bits))))
  | _ => none

def strBin (op : BinOp) (a b : ByteArray) : Option Value :=
  match op with
  | .add => if a.size + b.size ≤ 9223372036854775807 then some (.string (a ++ b)) else none
  | .eql => some (.bool (a.toList == b.toList))
  | .neq => some (.bool (!(a.toList == b.toList)))
  | .lss => some (.bool (Op.bytesLess a.toList b.toList))
  | .leq => some (.bool (Op.bytesLess a.toList b.toList || a.toList == b.toList))
  | .gtr => some (.bool (!(Op.bytesLess a.toList b.toList || a.toList == b.toList)))
  | .geq => some (.bool (!(Op.bytesLess a.toList b.toList)))
  | _ => none

/-- Equality of two values of a scalar type. -/
def scalEq (ty : Option Ty) (x y : AV) : Option Bool :=
  match kOf ty, x, y with
  | some (.int _), .v (.int k a), .v (.int k' b) => if k = k' then some (a == b) else none
  | some .bool, .v (.bool a), .v (.bool b) => some (a == b)
  | some .string, .v (.string a), .v (.string b) => some (a.toList == b.toList)
  | _, _, _ => none

def fieldsEq (P : Program) (l m : List AV) : List (Nat × TypeId) → Option Bool
  | [] => some true
  | (o, t) :: r =>
    match l[o]?, m[o]? with
    | some x, some y =>
      match scalEq (tyOf P t) x y with
      | some true => fieldsEq P l m r
      | some false => some false
      | none => none
    | _, _ => none

def cellsEq (ty : Option Ty) (l m : List AV) : Nat → Nat → Option Bool
  | _, 0 => some true
  | i, n + 1 =>
    match l[i]?, m[i]? with
    | some x, some y =>
      match scalEq ty x y with
      | some true => cellsEq ty l m (i + 1) n
      | some false => some false
      | none => none
    | _, _ => none

/-- Two values of this struct type are compared field by field, and no guard of the model's stands in the way. -/
def eqOk (P : Program) (t : TypeId) : Bool :=
  !(P.eqGuardType P.depth t) &&
  match P.underlying t with
  | some (.struct fs) => !(P.stoodInHeld t) && fs.all fun f => f.name != "_"
  | _ => true

def aggEq (P : Program) (t : TypeId) (l m : List AV) : Option Bool :=
  if eqOk P t = false then none else
  match tk P t with
  | some (.struct fs) => fieldsEq P l m fs
  | some (.array n e) => if (tyOf P e).map (fun t => t.size) = some 1 then cellsEq (tyOf P e) l m 0 n else none
  | _ => none

/-- Whether a slice is nil, where that is known. -/
def nilB : AV → Option Bool
  | .own _ _ _ n => if 0 < n then some false else none
  | .sl n _ => if 0 < n then some false else none
  | .v (.slice none _ _) => some true
  | _ => none
def binV (P : Program) (op : BinOp) (t : TypeId) (x y : AV) : Option AV :=
  match x, y with
  | .v (.int k a), .v (.int k' b) =>
    match op with
    | .shl | .shr => (shiftBin op k a b).map .v
    | _ => if k = k' then (intBin op k a b).map .v else none
  | .v (.string a), .v (.string b) => (strBin op a b).map .v
  | .v (.bool a), .v (.bool b) =>
    match op, tk P t with
    | .eql, some .bool => some (.b (a == b))
    | .neq, some .bool => some (.b (!(a == b)))
    | _, _ => none
  | .agg l, .agg m =>
    match op with
    | .eql => (aggEq P t l m).map fun r => .b r
    | .neq => (aggEq P t l m).map fun r => .b (!r)
    | _ => none
  | x, .v (.slice none 0 0) =>
    match op, tk P t with
    | .eql, some (.slice _) => (nilB x).map fun r => .b r
    | .neq, some (.slice _) => (nilB x).map fun r => .b (!r)
    | _, _ => none
  | _, _ => none

def unV (op : UnOp) (x : AV) : Option AV :=
  match op, x with
  | .not, .v (.bool b) => some (.b (!b))
  | .neg, .v (.int k n) => some (.v (.int k (k.wrap (0 - n))))
  | .xor, .v (.int k n) => (intBin .xor k (if k.signed then -1 else k.max) n).map .v
  | _, _ => none

def lenV (ty : Option Ty) (x : AV) : Option AV :=
  match kOf ty, x with
  | some (.slice _), .sl n _ => some (.i n)
  | some (.slice _), .own _ _ _ n => some (.i n)
  | some (.slice _), .v (.slice _ n _) => some (.i n)
  | some .string, .v (.string s) => some (.i s.size)
  | some (.array n _), _ => some (.i n)
  | _, _ => none

def max2 : AV → AV → Option AV
  | .v (.int k x), .v (.int _ y) => some (.v (.int k (if y > x then y else x)))
  | _, _ => none
def min2 : AV → AV → Option AV
  | .v (.int k x), .v (.int _ y) => some (.v (.int k (if y < x then y else x)))
  | _, _ => none
def foldA (f : AV → AV → Option AV) : AV → List AV → Option AV
  | x, [] => some x
  | x, y :: r => match f x y with | some z => foldA f z r | none => none

def convV (P : Program) (src dst : TypeId) (x : AV) : Option AV :=
  match tyOf P src, tk P dst, x with
  | some _, some (.int k), .v (.int _ n) => some (.v (.int k (k.wrap n)))
  | some _, some .string, .v (.string s) => some (.v (.string s))
  | _, _, _ => none

def indexV (P : Program) (t : TypeId) (x ix : AV) : Option AV :=
  match x, ix, tk P t with
  | .agg l, .v (.int _ i), some (.array n e) =>
    match tyOf P e with
    | some te => if 0 ≤ i ∧ i < n then partL te l (i.toNat * te.size) else none
    | none => none
  | .v (.string s), .v (.int _ i), some .string => if 0 ≤ i ∧ i.toNat < s.size then some (.v (.int .u8 (s.data[i.toNat]?.getD 0).toNat)) else none
  | _, _, _ => none

def indexAddrV (P : Program) (t : TypeId) (x ix : AV) : Option AV :=
  match x, ix, tk P t with
  | .sl n l, .v (.int _ i), some (.slice e) =>
    match tyOf P e with
    | some te => if 0 ≤ i ∧ i < n then some (.ele l (i.toNat * te.size)) else none
    | none => none
  | .own _ b o n, .v (.int _ i), some (.slice e) =>
    match tyOf P e with
    | some te => if 0 ≤ i ∧ i < n then some (.ptr b (o + i.toNat * te.size)) else none
    | none => none
  | .ptr b o, .v (.int _ i), some (.array n e) =>
    match tyOf P e with
    | some te => if 0 ≤ i ∧ i < n then some (.ptr b (o + i.toNat * te.size)) else none
    | none => none
  | .ele l o, .v (.int _ i), some (.array n e) =>
    match tyOf P e with
    | some te => if 0 ≤ i ∧ i < n then some (.ele l (o + i.toNat * te.size)) else none
    | none => none
  | _, _, _ => none

def fieldAddrV (P : Program) (s : TypeId) (x : AV) (f : Nat) : Option AV :=
  match tk P s with
  | some (.struct fs) =>
    match fs[f]? with
    | some (off, ft) =>
      if ((tyOf P ft).map (fun t => t.size)).getD 0 = 0 then none else
      match x with
      | .ptr b o => some (.ptr b (o + off))
      | .ele l o => some (.ele l (o + off))
      | _ => none
    | none => none
  | _ => none

def fieldV (P : Program) (s : TypeId) (x : AV) (f : Nat) : Option AV :=
  match tk P s, x with
  | some (.struct fs), .agg l =>
    match fs[f]? with
    | some (off, ft) =>
      match tyOf P ft with
      | some te => partL te l off
      | none => none
    | none => none
  | _, _ => none

def bound (dflt : Int) : Option AV → Option Int
  | none => some dflt
  | some (.v (.int _ i)) => some i
  | _ => none

def sliceV (P : Program) (t : TypeId) (x : AV) (lo hi : Option AV) : Option AV :=
  match x, tk P t with
  | .sl n l, some (.slice e) =>
    match tyOf P e, bound 0 lo, bound n hi with
    | some te, some a, some b => if 0 ≤ a ∧ a ≤ b ∧ b ≤ n then some (.sl (b.toNat - a.toNat) (l.drop (a.toNat * te.size))) else none
    | _, _, _ => none
  | .own z k o n, some (.slice e) =>
    match tyOf P e, bound 0 lo, bound n hi with
    | some te, some a, some b => if z = te.size ∧ 0 ≤ a ∧ a ≤ b ∧ b ≤ n then some (.own z k (o + a.toNat * z) (b.toNat - a.toNat)) else none
    | _, _, _ => none
  | .v (.string s), some .string =>
    match bound 0 lo, bound s.size hi with
    | some a, some b => if 0 ≤ a ∧ a ≤ b ∧ b ≤ s.size then some (.v (.string (s.extract a.toNat b.toNat))) else none
    | _, _ => none
  | .v (.slice none 0 0), some (.slice e) =>
    match tyOf P e, bound 0 lo, bound 0 hi with
    | some _, some a, some b => if 0 ≤ a ∧ a ≤ b ∧ b ≤ 0 then some (.v (.slice none 0 0)) else none
    | _, _, _ => none
  | _, _ => none

/-- Parts laid into the cells of a struct or an array: 'place i': where part i begins, and its size. -/
def fillA (place : Nat → Option (Nat × Nat)) : List AV → List (Nat × AV) → Option (List AV)
  | cells, [] => some cells
  | cells, (i, x) :: r =>
    match place i, cellsOf x with
    | some (o, s), some c => if c.length = s ∧ o + s ≤ cells.length then fillA place (cells.take o ++ c ++ cells.drop (o + s)) r else none
    | _, _ => none

def places (P : Program) : List (Nat × TypeId) → Option (List (Nat × Nat))
  | [] => some []
  | (o, t) :: r =>
    match tyOf P t, places P r with
    | some te, some l => some ((o, te.size) :: l)
    | _, _ => none

def buildV (P : Program) (t : TypeId) (parts : List (Nat × AV)) : Option AV :=
  match tyOf P t with
  | some ty =>
    match ty.zero, ty.k with
    | some z, .struct fs =>
      match places P fs with
      | some l => (fillA (fun i => l[i]?) (z.map .v) parts).map .agg
      | none => none
    | some z, .array _ e =>
      match tyOf P e with
      | some te => (fillA (fun i => some (i * te.size, te.size)) (z.map .v) parts).map .agg
      | none => none
    | _, _ => none
  | none => none

/-- The pure operations: their value hangs on the operands alone. -/
def popV (P : Program) (o : Op) (ev : Operand → AV) : Option AV :=
  match o with
  | .move x | .assign x => some (ev x)
  | .pick c a b =>
    match ev c with
    | .v (.bool t) => some (if t then ev a else ev b)
    | _ => none
  | .build t parts => buildV P t (parts.toList.map fun (i, x) => (i, ev x))
  | .nilCheck x =>
    match ev x with
    | .ptr b o => some (.ptr b o)
    | .ele l o => some (.ele l o)
    | .clo f l => some (.clo f l)
    | _ => none
  | .binOp op t x y _ => binV P op t (ev x) (ev y)
  | .unOp op _ x => unV op (ev x)
  | .convert s d x => convV P s d (ev x)
  | .makeFunc (.func f) first captured => if first.size = 0 then some (.clo f (captured.toList.map ev)) else none
  | .slice t x lo hi none => sliceV P t (ev x) (lo.map ev) (hi.map ev)
  | .fieldAddr s x f => fieldAddrV P s (ev x) f
  | .field s x f => fieldV P s (ev x) f
  | .indexAddr t x i => indexAddrV P t (ev x) (ev i)
  | .index t x i => indexV P t (ev x) (ev i)
  | .extract t i =>
    match ev t with
    | .tup l => l[i]?
    | _ => none
  | .call { callee := .builtin .len, args, argTypes } =>
    match args.toList, argTypes.toList with
    | [x], [t] => lenV (tyOf P t) (ev x)
    | _, _ => none
  | .call { callee := .builtin .max, args, argTypes := _ } =>
    match args.toList with
    | x :: r => foldA max2 (ev x) (r.map ev)
    | [] => none
  | .call { callee := .builtin .min, args, argTypes := _ } =>
    match args.toList with
    | x :: r => foldA min2 (ev x) (r.map ev)
    | [] => none
  | _ => none

/-- A load. -/
def loadV (P : Program) (H : Heap) (t : TypeId) (x : AV) : Option AV :=
  match tyOf P t, x with
  | some ty, .ptr b o =>
    match hget H b with
    | some k => partL ty k o
    | none => none
  | some ty, .ele l o => partL ty l o
  | _, _ => none

def setL : List AV → Nat → List AV → List AV
  | l, _, [] => l
  | l, o, x :: r => setL (l.set o x) (o + 1) r

/-- The first m elements (of size s) of what is appended: their cells. -/
def srcCells (H : Heap) (s : Nat) : AV → Option (Nat × List AV)
  | .own _ b o m =>
    match hget H b with
    | some k => if o + m * s ≤ k.length then some (m, (k.drop o).take (m * s)) else none
    | none => none
  | .sl m l => if m * s ≤ l.length then some (m, l.take (m * s)) else none
  | .v (.slice none 0 0) => some (0, [])
  | _ => none

def appendV (P : Program) (lim : Nat) (H : Heap) (t : TypeId) (x y : AV) : Option (AV × Heap) :=
  match tk P t with
  | some (.slice e) =>
    match tyOf P e with
    | some te =>
      match te.zero, srcCells H te.size y with
      | some z, some (m, new) =>
        if z.length = te.size ∧ 0 < te.size ∧ new.all storable then
          match x with
          | .own z b o n =>
            match hget H b with
            | some k =>
              if lim ≤ b ∧ z = te.size ∧ o + n * z ≤ k.length ∧ (n + m) * te.bytes ≤ 140737488355328 ∧ n + m ≤ 4611686018427387904 then
                some (.own z H.length 0 (n + m), hset H b none ++ [some ((k.drop o).take (n * z) ++ new)])
              else none
            | none => none
          | .v (.slice none 0 0) =>
            if m * te.bytes ≤ 140737488355328 ∧ m ≤ 4611686018427387904 then some (.own te.size H.length 0 m, H ++ [some new]) else none
          | _ => none
        else none
      | _, _ => none
    | none => none
  | _ => none

/-- Bytes, one by one. -/
def bytesOf : List AV → Option (List UInt8)
  | [] => some []
  | .v (.int .u8 n) :: r => if 0 ≤ n ∧ n ≤ 255 then (bytesOf r).map (UInt8.ofNat n.toNat :: ·) else none
  | _ => none

/-- 'string(b)' of a slice of bytes that holds at least one. -/
def backV (P : Program) (H : Heap) (k : TyK) (y : AV) : Option AV :=
  match k, srcCells H 1 y with
  | .slice e, some (m, new) =>
    match tk P e, bytesOf new with
    | some (.int .u8), some l => if 0 < m then some (.v (.string ⟨l.toArray⟩)) else none
    | _, _ => none
  | _, _ => none

/-- The operations that make or write memory. -/
def effV (P : Program) (lim : Nat) (o : Op) (ev : Operand → AV) (H : Heap) : Option (AV × Heap) :=
  match o with
  | .alloc t =>
    match tyOf P t with
    | some ty =>
      match ty.zero with
      | some z => some (.ptr H.length 0, H ++ [some (z.map .v)])
      | none => none
    | none => none
  | .box t x =>
    match tyOf P t, cellsOf (ev x) with
    | some _, some c => some (.ptr H.length 0, H ++ [some c])
    | _, _ => none
  | .store t a x =>
    match tyOf P t, ev a, cellsOf (ev x) with
    | some ty, .ptr b o, some c =>
      match hget H b with
      | some k => if lim ≤ b ∧ c.length = ty.size ∧ o + ty.size ≤ k.length then some (.v undef, hset H b (some (setL k o c))) else none
      | none => none
    | _, _, _ => none
  | .buildSlice t n parts =>
    match tk P t with
    | some (.slice e) =>
      match tyOf P e with
      | some te =>
        match te.zero with
        | some z =>
          if z.length = te.size ∧ 0 < te.size ∧ n * te.size ≤ 16777216 then
            match fillA (fun i => some (i * te.size, te.size)) ((List.replicate n (z.map .v)).flatten) (parts.toList.map fun (i, x) => (i, ev x)) with
            | some c => some (.own te.size H.length 0 n, H ++ [some c])
            | none => none
          else none
        | none => none
      | none => none
    | _ => none
  | .makeSlice t l c =>
    match tk P t, ev l, ev c with
    | some (.slice e), .v (.int _ n), .v (.int _ m) =>
      match tyOf P e with
      | some te =>
        match te.zero with
        | some z =>
          if z.length = te.size ∧ 0 < te.size ∧ 0 ≤ n ∧ n ≤ m ∧ m ≤ 4611686018427387904 ∧ te.bytes * m ≤ 140737488355328 then
            some (.own te.size H.length 0 n.toNat, H ++ [some (List.replicate m.toNat (z.map .v)).flatten])
          else none
        | none => none
      | none => none
    | _, _, _ => none
  | .call { callee := .builtin .append, args, argTypes } =>
    match args.toList, argTypes.toList with
    | [x, y], [t, u] => if t = u then appendV P lim H t (ev x) (ev y) else none
    | _, _ => none
  | .convert s d x =>
    match tyOf P s, tk P d, ev x with
    | some _, some (.slice e), .v (.string b) =>
      match tk P e with
      | some (.int .u8) => if b.size ≤ 9223372036854775807 then some (.sl b.size (b.data.toList.map fun c => .v (.int .u8 (c.toNat : Int))), H) else none
      | _ => none
    | some ty, some .string, y => (backV P H ty.k y).map (·, H)
    | _, _, _ => none
  | _ => none

/-- A call of a Go function: whom, with what. -/
def callV (o : Op) (ev : Operand → AV) : Option (FuncId × List AV) :=
  match o with
  | .call { callee := .value f, args, argTypes := _ } =>
    match ev f with
    | .clo g l => some (g, args.toList.map ev ++ l)
    | _ => none
  | _ => none

def isLoad (o : Op) : Option (TypeId × Operand) :=
  match o with
  | .load t a => some (t, a)
  | _ => none

/-- A call: the blocks below the first number are not written; whom, with what, in which memory. -/
abbrev CallF := Nat → FuncId → List AV → Heap → Option (AV × Heap)

/-- A value that is the very same in every world. -/
def exact : AV → Bool
  | .v _ => true
  | _ => false
def exacts : AV → Bool
  | .v _ => true
  | .tup l => l.all exact
  | .agg l => l.all exact
  | _ => false

/-- One operation. -/
def opV (P : Program) (call : CallF) (lim : Nat) (o : Op) (e : Env) (H : Heap) : Option (AV × Heap) :=
  match isLoad o with
  | some (t, a) => (loadV P H t (evO e a)).map (·, H)
  | none =>
    match callV o (evO e) with
    | some (f, args) => call lim f args H
    | none =>
      match popV P o (evO e) with
      | some x => some (x, H)
      | none => effV P lim o (evO e) H

def wantedA (ops : Array Oper) (e : Env) (o : Oper) : Option Bool :=
  match o.guard with
  | none => some true
  | some (j, want) =>
    match (ops[j]?).bind (·.dst) with
    | some d =>
      match e.get d with
      | .v (.bool b) => some (b == want)
      | .v _ => some false
      | _ => none
    | none => none

def runOps (P : Program) (call : CallF) (lim : Nat) (ops : Array Oper) : List Oper → Env → Heap → Option (Env × Heap)
  | [], e, H => some (e, H)
  | o :: r, e, H =>
    match wantedA ops e o with
    | some true =>
      match opV P call lim o.op e H with
      | some (x, H') => runOps P call lim ops r (e.put o.dst x) H'
      | none => none
    | some false => runOps P call lim ops r (e.put o.dst (.v undef)) H
    | none => none

/-- One operation that only reads (a pure one, a load, a call whose answer is the same in every world). -/
def quietV (P : Program) (call : CallF) (pure : FuncId → Bool) (o : Op) (e : Env) (H : Heap) : Option AV :=
  match isLoad o with
  | some (t, a) => loadV P H t (evO e a)
  | none =>
    match callV o (evO e) with
    | some (f, args) =>
      if pure f then
        match call H.length f args H with
        | some (x, _) => if exacts x then some x else none
        | none => none
      else none
    | none => popV P o (evO e)

def runQuiet (P : Program) (call : CallF) (pure : FuncId → Bool) (ops : Array Oper) : List Oper → Env → Heap → Option Env
  | [], e, _ => some e
  | o :: r, e, H =>
    match wantedA ops e o with
    | some true =>
      match quietV P call pure o.op e H with
      | some x => runQuiet P call pure ops r (e.put o.dst x) H
      | none => none
    | some false => runQuiet P call pure ops r (e.put o.dst (.v undef)) H
    | none => none

inductive Ex where
  | normal
  | exit (id : Nat)
  | ret

structure St where
  loc : Env
  H : Heap

/-- How a region that draws its order is taken. 'quiet n': its first n operations only read, in whatever order; the others follow in one forced order. 'led': those in 'lead' only read and may be taken first; behind them come those of 'mids', which write over nothing that those have read; where 'mids' names more than one order, the edges leave open which, and they write nothing that stood before; at last those of 'fin', one by one. Where 'mids' names more than one order: of what they leave, the slots 'live' and the new blocks 'keep' (counted from the region's start) live on. -/
inductive Draw where
  | quiet (n : Nat)
  | led (lead : List Nat) (mids : List (List Nat)) (fin live keep : List Nat)
  /-- as 'led', but behind 'lead' come first those of 'mid' in one order, which leave the memory as it is, and then 'lead2', which only read -/
  | led2 (lead mid lead2 : List Nat) (mids : List (List Nat)) (fin live keep : List Nat)
  /-- as 'led' with several orders, where these may write what stood before: all in the same way -/
  | ledL (lead : List Nat) (mids : List (List Nat)) (fin live keep : List Nat)

/-- What a function bears beside its code: the slots that live on behind a region; how each region that draws its order is taken. -/
structure FnA where
  fn : Func
  keep : List Nat
  draws : List (Nat × Draw)

def Env.getD : Env → Nat → AV → AV
  | [], _, d => d
  | (k, x) :: r, t, d => if t = k then x else Env.getD r t d
/-- Behind a region: the slots that live on, with what they hold now. -/
def trim (e loc : Env) : Env := loc.map fun p => (p.1, Env.getD (e.take (e.length - loc.length)) p.1 p.2)

def dsts (ops : Array Oper) : List Nat := ops.toList.filterMap (·.dst)
/-- Operations by their numbers. -/
def pick (ops : Array Oper) (l : List Nat) : List Oper := l.filterMap fun i => ops[i]?

/-- Of the new blocks (from number n on) those are left whose number is named. -/
def keepOnly (l : List Nat) (n : Nat) (H : Heap) : Heap := H.mapIdx fun i x => if i < n ∨ (i - n) ∈ l then x else none
/-- The slots that live on behind orders that differ. -/
def cutE (ops : Array Oper) (live : List Nat) (loc e : Env) : Env := live.map (fun t => (t, e.get t)) ++ (dsts ops).map (fun t => (t, .any)) ++ loc

/-- An operation that only reads, no call. -/
def takeV (P : Program) (o : Op) (e : Env) (H : Heap) : Option AV :=
  match isLoad o with
  | some (t, a) => loadV P H t (evO e a)
  | none =>
    match callV o (evO e) with
    | some _ => none
    | none => popV P o (evO e)
/-- The block of the call's own that an operation reads. -/
def rdV (o : Op) (e : Env) : List Nat :=
  match isLoad o with
  | some (_, a) => match evO e a with | .ptr b _ => [b] | _ => []
  | none => []
/-- The block that an operation writes over. -/
def wrV (o : Op) (e : Env) : Option Nat :=
  match o with
  | .store _ a _ => match evO e a with | .ptr b _ => some b | _ => none
  | .call { callee := .builtin .append, args, argTypes := _ } => match args.toList with | x :: _ => (match evO e x with | .own _ b _ _ => some b | _ => none) | [] => none
  | _ => none
def wrC (R : List Nat) (o : Oper) (e : Env) : Bool :=
  match wrV o.op e with
  | some b => !R.contains b
  | none => true
/-- Those that are taken first: what they yield, and the blocks that they read. -/
def runLead (P : Program) (ops : Array Oper) : List Oper → Env → Heap → List Nat → Option (Env × List Nat)
  | [], e, _, R => some (e, R)
  | o :: r, e, H, R =>
    match wantedA ops e o with
    | some true =>
      match takeV P o.op e H with
      | some x => runLead P ops r (e.put o.dst x) H (rdV o.op e ++ R)
      | none => none
    | some false => runLead P ops r (e.put o.dst (.v undef)) H R
    | none => none
/-- The blocks of R are as they were. -/
def stay (R : List Nat) (H H' : Heap) : Prop := ∀ b, b ∈ R → ∀ k, hget H b = some k → hget H' b = some k
/-- A call of a function of the program. -/
def isCallO (o : Oper) : Bool :=
  match o.op with
  | .call { callee := .value _, args := _, argTypes := _ } => true
  | _ => false
open Classical in
/-- Operations in the middle: they write over no block of R. -/
noncomputable def runMid (P : Program) (call : CallF) (lim : Nat) (ops : Array Oper) (R : List Nat) : List Oper → Env → Heap → Option (Env × Heap)
  | [], e, H => some (e, H)
  | o :: r, e, H =>
    if wrC R o e then
      match wantedA ops e o with
      | some true =>
        match opV P call lim o.op e H with
        | some (x, H') => if (isCallO o && !decide (stay R H H')) = true then none else runMid P call lim ops R r (e.put o.dst x) H'
        | none => none
      | some false => runMid P call lim ops R r (e.put o.dst (.v undef)) H
      | none => none
    else none

/-! ### The same, but for the numbers of the new blocks -/
def rnB (n0 : Nat) (p : List Nat) (b : Nat) : Nat := if b < n0 then b else n0 + p.idxOf (b - n0)
def ren (f : Nat → Nat) : Nat → AV → AV
  | 0, _ => .any
  | d + 1, x =>
    match x with
    | .own z b o n => .own z (f b) o n
    | .ptr b o => .ptr (f b) o
    | .sl n l => .sl n (l.map (ren f d))
    | .agg l => .agg (l.map (ren f d))
    | .tup l => .tup (l.map (ren f d))
    | .v x => .v x
    | _ => .any
/-- The state (e1, H1) is (e0, H0) where block n0 + p[k] of the one is block n0 + k of the other. -/
def SameBy (n0 : Nat) (live keep : List Nat) (e0 : Env) (H0 : Heap) (e1 : Env) (H1 : Heap) (p : List Nat) : Prop :=
  n0 ≤ H0.length ∧ H1.length = H0.length ∧ p.length = H0.length - n0 ∧ p.Nodup ∧ (∀ q ∈ p, q < p.length) ∧ (∀ q, q < p.length → q ∈ p) ∧
    (∀ t ∈ live, ren (rnB n0 p) 8 (e1.get t) = e0.get t) ∧ ∀ k ∈ keep, hget H0 (n0 + k) = (hget H1 (n0 + p.getD k 0)).map (List.map (ren (rnB n0 p) 8))
def SameUp (n0 : Nat) (live keep : List Nat) (e0 : Env) (H0 : Heap) (e1 : Env) (H1 : Heap) : Prop := ∃ p, SameBy n0 live keep e0 H0 e1 H1 p

def veq : Value → Value → Bool
  | .int k a, .int k' b => k == k' && a == b
  | .bool a, .bool b => a == b
  | .slice none n c, .slice none n' c' => n == n' && c == c'
  | _, _ => false
def leq {α : Type} (f : α → α → Bool) : List α → List α → Bool
  | [], [] => true
  | x :: l, y :: m => f x y && leq f l m
  | _, _ => false
def aveq : Nat → AV → AV → Bool
  | 0, _, _ => false
  | d + 1, x, y =>
    match x, y with
    | .any, .any => true
    | .v a, .v b => veq a b
    | .sl n l, .sl m k => n == m && leq (aveq d) l k
    | .own z b o n, .own z' b' o' n' => z == z' && b == b' && o == o' && n == n'
    | .ptr b o, .ptr b' o' => b == b' && o == o'
    | .agg l, .agg k => leq (aveq d) l k
    | .tup l, .tup k => leq (aveq d) l k
    | _, _ => false
def beq : Option Blk → Option Blk → Bool
  | none, none => true
  | some l, some k => leq (aveq 9) l k
  | _, _ => false
def ins (x : Nat) : List Nat → List (List Nat)
  | [] => [[x]]
  | y :: l => (x :: y :: l) :: (ins x l).map (y :: ·)
def perms : Nat → List (List Nat)
  | 0 => [[]]
  | n + 1 => (perms n).flatMap (ins n)
def sameB (n0 : Nat) (live keep : List Nat) (e0 : Env) (H0 : Heap) (e1 : Env) (H1 : Heap) : Bool :=
  decide (n0 ≤ H0.length) && H1.length == H0.length && (perms (H0.length - n0)).any fun p =>
    p.length == H0.length - n0 && decide p.Nodup && p.all (· < p.length) && (List.range p.length).all (p.contains ·) &&
      live.all (fun t => aveq 9 (ren (rnB n0 p) 8 (e1.get t)) (e0.get t)) && keep.all fun k => beq (hget H0 (n0 + k)) ((hget H1 (n0 + p.getD k 0)).map (List.map (ren (rnB n0 p) 8)))

open Classical in
/-- The other orders come to the same end. -/
noncomputable def altsOK (P : Program) (call : CallF) (ops : Array Oper) (live keep : List Nat) (n0 : Nat) (e : Env) (H : Heap) (e0 : Env) (H0 : Heap) : List (List Nat) → Bool
  | [] => true
  | m :: ms =>
    (match runOps P call n0 ops (pick ops m) e H with
    | some r => sameB n0 live keep e0 H0 r.1 r.2 || decide (SameUp n0 live keep e0 H0 r.1 r.2)
    | none => false) && altsOK P call ops live keep n0 e H e0 H0 ms

noncomputable def led (P : Program) (call : CallF) (lim : Nat) (ops : Array Oper) (lead : List Nat) (mids : List (List Nat)) (fin live keep : List Nat) (s : St) : Option St :=
  match runLead P ops (pick ops lead) s.loc s.H [], mids with
  | some (e, R), [m] =>
    match runMid P call lim ops R (pick ops m) e s.H with
    | some (e1, H1) => (runOps P call lim ops (pick ops fin) e1 H1).map fun (e', H') => ⟨trim e' s.loc, H'⟩
    | none => none
  | some (e, _), m :: m2 :: ms =>
    match runOps P call s.H.length ops (pick ops m) e s.H with
    | some (e1, H1) =>
      if altsOK P call ops live keep s.H.length e s.H e1 H1 (m2 :: ms) then
        (runOps P call lim ops (pick ops fin) (cutE ops live s.loc e1) (keepOnly keep s.H.length H1)).map fun (e', H') => ⟨trim e' s.loc, H'⟩
      else none
    | none => none
  | _, _ => none

open Classical in
noncomputable def led2 (P : Program) (call : CallF) (lim : Nat) (ops : Array Oper) (lead mid lead2 : List Nat) (mids : List (List Nat)) (fin live keep : List Nat) (s : St) : Option St :=
  match runLead P ops (pick ops lead) s.loc s.H [] with
  | some (e, R) =>
    match runOps P call s.H.length ops (pick ops mid) e s.H with
    | some (e1, H1) =>
      if H1 = s.H then
        match runLead P ops (pick ops lead2) e1 s.H R, mids with
        | some (e2, _), m :: ms =>
          match runOps P call s.H.length ops (pick ops m) e2 s.H with
          | some (e3, H3) =>
            if altsOK P call ops live keep s.H.length e2 s.H e3 H3 ms then
              (runOps P call lim ops (pick ops fin) (cutE ops live s.loc e3) (keepOnly keep s.H.length H3)).map fun (e', H') => ⟨trim e' s.loc, H'⟩
            else none
          | none => none
        | _, _ => none
      else none
    | none => none
  | none => none

/-- Reads, then one order; reads again, then one order; then the end. -/
noncomputable def led3 (P : Program) (call : CallF) (lim : Nat) (ops : Array Oper) (lead mid lead2 m fin : List Nat) (s : St) : Option St :=
  match runLead P ops (pick ops lead) s.loc s.H [] with
  | some (e, R) =>
    match runMid P call lim ops R (pick ops mid) e s.H with
    | some (e1, H1) =>
      match runLead P ops (pick ops lead2) e1 H1 [] with
      | some (e2, R2) =>
        match runMid P call lim ops R2 (pick ops m) e2 H1 with
        | some (e3, H3) => (runOps P call lim ops (pick ops fin) e3 H3).map fun (e', H') => ⟨trim e' s.loc, H'⟩
        | none => none
      | none => none
    | none => none
  | none => none
/-- Reads that may be taken first ('lead': of what these have read nothing is written in the middle), and reads that come ahead of the middle in every order ('lead2'); one order; then the end. -/
noncomputable def led4 (P : Program) (call : CallF) (lim : Nat) (ops : Array Oper) (lead lead2 m fin : List Nat) (s : St) : Option St :=
  match runLead P ops (pick ops lead) s.loc s.H [] with
  | some (e, R) =>
    match runLead P ops (pick ops lead2) e s.H R with
    | some (e2, _) =>
      match runMid P call lim ops R (pick ops m) e2 s.H with
      | some (e3, H3) => (runOps P call lim ops (pick ops fin) e3 H3).map fun (e', H') => ⟨trim e' s.loc, H'⟩
      | none => none
    | none => none
  | none => none
noncomputable def led23 (P : Program) (call : CallF) (lim : Nat) (ops : Array Oper) (lead mid lead2 : List Nat) (mids : List (List Nat)) (fin live keep : List Nat) (s : St) : Option St :=
  match mids with
  | [m] => if mid = [] then led4 P call lim ops lead lead2 m fin s else led3 P call lim ops lead mid lead2 m fin s
  | ms => led2 P call lim ops lead mid lead2 ms fin live keep s

def lowEq (n0 : Nat) (H0 H1 : Heap) : Prop := ∀ b, b < n0 → hget H0 b = hget H1 b
/-- Cells that hold plain values only. -/
def plainK (k : Blk) : Bool := k.all fun x => match x with | .v _ => true | _ => false
/-- The new blocks in l, and what stood before and holds plain values only. -/
def keepP (l : List Nat) (n : Nat) (H : Heap) : Heap := H.mapIdx fun i x => if i < n then (match x with | some k => if plainK k then some k else none | none => none) else if (i - n) ∈ l then x else none
open Classical in
noncomputable def altsL (P : Program) (call : CallF) (lim : Nat) (ops : Array Oper) (R live keep : List Nat) (n0 : Nat) (e : Env) (H : Heap) (e0 : Env) (H0 : Heap) : List (List Nat) → Bool
  | [] => true
  | m :: ms =>
    (match runMid P call lim ops R (pick ops m) e H with
    | some r => decide (SameUp n0 live keep e0 H0 r.1 r.2 ∧ lowEq n0 H0 r.2)
    | none => false) && altsL P call lim ops R live keep n0 e H e0 H0 ms
open Classical in
noncomputable def ledL (P : Program) (call : CallF) (lim : Nat) (ops : Array Oper) (lead : List Nat) (mids : List (List Nat)) (fin live keep : List Nat) (s : St) : Option St :=
  match runLead P ops (pick ops lead) s.loc s.H [], mids with
  | some (e, R), m :: ms =>
    match runMid P call lim ops R (pick ops m) e s.H with
    | some (e1, H1) =>
      if altsL P call lim ops R live keep s.H.length e s.H e1 H1 ms = true then
        (runOps P call lim ops (pick ops fin) (cutE ops live s.loc e1) (keepP keep s.H.length H1)).map fun (e', H') => ⟨trim e' s.loc, H'⟩
      else none
    | none => none
  | _, _ => none

noncomputable def region (P : Program) (call : CallF) (pure : FuncId → Bool) (lim : Nat) (draws : List (Nat × Draw)) (id : Nat) (ops : Array Oper) (draw : Bool) (s : St) : Option St :=
  if draw then
    match draws.lookup id with
    | some (.quiet n) =>
      match runQuiet P call pure ops (ops.toList.take n) s.loc s.H with
      | some e => (runOps P call lim ops (ops.toList.drop n) e s.H).map fun (e', H') => ⟨trim e' s.loc, H'⟩
      | none => none
    | some (.led lead mids fin live keep) => led P call lim ops lead mids fin live keep s
    | some (.led2 lead mid lead2 mids fin live keep) => led23 P call lim ops lead mid lead2 mids fin live keep s
    | some (.ledL lead mids fin live keep) => ledL P call lim ops lead mids fin live keep s
    | none => none
  else (runOps P call lim ops ops.toList s.loc s.H).map fun (e', H') => ⟨trim e' s.loc, H'⟩

noncomputable def exec (P : Program) (call : CallF) (pure : FuncId → Bool) (lim : Nat) (draws : List (Nat × Draw)) : Nat → Code → St → Option (Ex × St)
  | 0, _, _ => none
  | n + 1, c, s =>
    match c with
    | .skip => some (.normal, s)
    | .region id ops draw => (region P call pure lim draws id ops draw s).map (.normal, ·)
    | .seq a b =>
      match exec P call pure lim draws n a s with
      | some (.normal, s') => exec P call pure lim draws n b s'
      | r => r
    | .cond c x y =>
      match evO s.loc c with
      | .v (.bool t) => if t then exec P call pure lim draws n x s else exec P call pure lim draws n y s
      | _ => none
    | .block id b =>
      match exec P call pure lim draws n b s with
      | some (.exit j, s') => if j = id then some (.normal, s') else some (.exit j, s')
      | r => r
    | .loop b =>
      match exec P call pure lim draws n b s with
      | some (.normal, s') => exec P call pure lim draws n (.loop b) s'
      | r => r
    | .exit id => some (.exit id, s)
    | .ret => some (.ret, s)
    | _ => none

/-- What a function hands back is read whole: its own new memory becomes data. -/
def frz (H : Heap) (base : Nat) : Nat → AV → AV
  | 0, _ => .any
  | d + 1, x =>
    match x with
    | .own z b o n =>
      if b < base then .own z b o n else
      match hget H b with
      | some k => .sl n ((k.drop o).map (frz H base d))
      | none => .any
    | .ptr b o => if b < base then .ptr b o else .any
    | .sl n l => .sl n (l.map (frz H base d))
    | .agg l => .agg (l.map (frz H base d))
    | .tup l => .tup (l.map (frz H base d))
    | .v x => .v x
    | _ => .any

structure Sig where
  P : Program
  fns : FuncId → Option FnA
  /-- functions that are not walked: what they answer, as data -/
  prim : FuncId → Option (List AV → Heap → Option AV)
  /-- functions that may write the caller's memory, and whose answer stays the call's own memory -/
  own : FuncId → Bool
  /-- functions of plain answers (ints, bools, strings) that take what the caller's memory holds as data -/
  fz : FuncId → Bool := fun _ => false
  /-- functions that are not walked and that may write: what they answer and leave -/
  eff : FuncId → Option (Nat → List AV → Heap → Option (AV × Heap)) := fun _ => none

def Sig.pure (S : Sig) (f : FuncId) : Bool := !S.own f

def resA (P : Program) (e : Env) (H : Heap) : ResultVar → Option AV
  | .tmp t => some (e.get t)
  | .cell a t => loadV P H t (e.get a)

def resAll (P : Program) (e : Env) (H : Heap) : List ResultVar → Option (List AV)
  | [] => some []
  | r :: rs =>
    match resA P e H r, resAll P e H rs with
    | some x, some l => some (x :: l)
    | _, _ => none

def oneOr (l : List AV) : AV :=
  match l with
  | [x] => x
  | l => .tup l

def env0 (keep : List Nat) (args : List AV) : Env := keep.map fun k => (k, args[k]?.getD .any)

def finish (S : Sig) (own : Bool) (fa : FnA) (H0 : Heap) (r : Option (Ex × St)) : Option (AV × Heap) :=
  match r with
  | some (.exit _, _) | none => none
  | some (_, s) =>
    match resAll S.P s.loc s.H fa.fn.results.toList with
    | some l => if own then some (oneOr l, s.H) else some (frz s.H H0.length 8 (oneOr l), H0)
    | none => none

noncomputable def acall (S : Sig) : Nat → CallF
  | 0, _, _, _, _ => none
  | n + 1, lim, f, args, H =>
    match S.prim f with
    | some p => (p args H).map (·, H)
    | none =>
      match S.fns f with
      | some fa =>
        match fa.fn.body with
        | some c =>
          if S.fz f then
            match finish S false fa [] (exec S.P (acall S n) S.pure 0 fa.draws n c ⟨env0 fa.keep (args.map (frz H 0 8)), []⟩) with
            | some (r, _) => if exacts r then some (r, H) else none
            | none => none
          else finish S (S.own f) fa H (exec S.P (acall S n) S.pure (if S.own f then lim else H.length) fa.draws n c ⟨env0 fa.keep args, H⟩)
        | none => none
      | none =>
        match S.eff f with
        | some p => p lim args H
        | none => none

end Go.Am
