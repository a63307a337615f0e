/-
  Texts of PointsTexts, part 1 of 10. An abstract machine over the given model: pure data in place of memory that came in, numbered blocks in place of memory that the call makes.
-/
import Derived.WalkKit
import Derived.LoopN
import Derived.Deep.Quiet
import Derived.Orders
import Derived.Laws.StructEq
import Derived.Test.YtfnapmdedmbdbaaDoorProg
import Derived.Lib.LaidTab
import Derived.Lib.ItoaNum
import Derived.Test.YtfnapmdedmbdbaaDoorRows
import Derived.ProofKit
import Derived.LaidLaws
import Derived.Handed
section
namespace Go.Am
open Go

/-- Abstract values. 'v x': this very value. 'sl n l': a slice of n elements over memory that nobody writes, its cells l. 'own z b o n': a slice of n elements of z cells in the call's own block b from cell o on. 'ptr b o': the address of cell o of block b. 'ele l o': the address of cell o of unwritten memory that reads l. -/
inductive AV where
  | any
  | v (x : Value)
  | sl (n : Nat) (l : List AV)
  | own (z b o n : Nat)
  | ptr (b o : Nat)
  | ele (l : List AV) (o : Nat)
  | agg (l : List AV)
  | tup (l : List AV)
  | clo (f : FuncId) (l : List AV)

instance : Inhabited AV := ⟨.any⟩

@[reducible] def AV.i (n : Int) : AV := .v (.int .i64 n)
@[reducible] def AV.b (t : Bool) : AV := .v (.bool t)

/-- A block is its cells; a block that nobody may use any more is none. -/
abbrev Blk := List AV
abbrev Heap := List (Option Blk)
abbrev Env := List (Nat × AV)

def Env.get : Env → Nat → AV
  | [], _ => .any
  | (k, x) :: r, t => if t = k then x else Env.get r t

/-- The newest entry of a slot stands in front. -/
def Env.set (e : Env) (t : Nat) (y : AV) : Env := (t, y) :: e
def Env.put (e : Env) : Option Nat → AV → Env
  | none, _ => e
  | some t, y => e.set t y

def hget (H : Heap) (b : Nat) : Option Blk := (H[b]?).join
def hset (H : Heap) (b : Nat) (x : Option Blk) : Heap := H.set b x

/-! ### Types -/
inductive TyK where
  | int (k : IntKind) | bool | string
  | slice (e : TypeId)
  | array (n : Nat) (e : TypeId)
  | struct (fs : List (Nat × TypeId))
  | other

structure Ty where
  size : Nat
  bytes : Nat
  agg : Bool
  k : TyK
  zero : Option (List Value)

def tyK (d : TypeDesc) : TyK :=
  match d with
  | .int k => .int k
  | .bool => .bool
  | .string => .string
  | .slice e => .slice e
  | .array n e => .array n e
  | .struct fs => .struct (fs.toList.map fun f => (f.offset, f.type))
  | _ => .other

def tyAgg (d : TypeDesc) : Bool :=
  match d with
  | .struct _ | .array _ _ => true
  | _ => false

def tyOf (P : Program) (t : TypeId) : Option Ty :=
  match P.info? t, P.underlying t with
  | some i, some d => some { size := i.size, bytes := i.bytes, agg := tyAgg d, k := tyK d, zero := i.zero.map fun z => z.cells.toList }
  | _, _ => none

def kOf (ty : Option Ty) : Option TyK := ty.map (fun t => t.k)
def tk (P : Program) (t : TypeId) : Option TyK := kOf (tyOf P t)

/-! ### Values -/
def ofV (x : Value) : AV :=
  match x with
  | .agg cs => .agg (cs.toList.map .v)
  | .func (.func f) fi ca => if fi.size = 0 ∧ ca.size = 0 then .clo f [] else .v x
  | x => .v x

def evO (e : Env) : Operand → AV
  | .tmp t => e.get t
  | .const x => ofV x
  | .func f => .clo f []
  | .global _ => .any

/-- The cells of a value that is stored: each a value of one cell. -/
def storable : AV → Bool
  | .v x => x.oneCell'
  | .sl _ _ | .own _ _ _ _ | .ptr _ _ | .ele _ _ | .clo _ _ => true
  | _ => false
def cellsOf : AV → Option (List AV)
  | .agg l => if l.all storable then some l else none
  | x => if storable x then some [x] else none

def isNil : AV → Bool
  | .v (.slice none 0 0) => true
  | _ => false

def partL (ty : Ty) (l : List AV) (o : Nat) : Option AV :=
  if ty.agg then (if o + ty.size ≤ l.length then some (.agg ((l.drop o).take ty.size)) else none)
  else l[o]?

/-! ### Pure operations -/
def intBin (op : BinOp) (k : IntKind) (a b : Int) : Option Value :=
  match op with
  | .add => some (.int k (k.wrap (a + b)))
  | .sub => some (.int k (k.wrap (a - b)))
  | .mul => some (.int k (k.wrap (a * b)))
  | .quo => if b = 0 then none else some (.int k (k.wrap (a.tdiv b)))
  | .rem => if b = 0 then none else some (.int k (a.tmod b))
  | .and => some (.int k (k.wrap (BitVec.ofInt k.bits a &&& BitVec.ofInt k.bits b).toNat))
  | .or => some (.int k (k.wrap (BitVec.ofInt k.bits a ||| BitVec.ofInt k.bits b).toNat))
  | .xor => some (.int k (k.wrap (BitVec.ofInt k.bits a ^^^ BitVec.ofInt k.bits b).toNat))
  | .andNot => some (.int k (k.wrap (BitVec.ofInt k.bits a &&& ~~~ BitVec.ofInt k.bits b).toNat))
  | .eql => some (.bool (a == b))
  | .neq => some (.bool (a != b))
  | .lss => some (.bool (decide (a < b)))
  | .leq => some (.bool (decide (a ≤ b)))
  | .gtr => some (.bool (decide (b < a)))
  | .geq => some (.bool (decide (b ≤ a)))
  | _ => none

def shiftBin (op : BinOp) (k : IntKind) (a b : Int) : Option Value :=
  if b < 0 then none else
  match op with
  | .shl => some (.int k (k.wrap (a * 2 ^ (min b.toNat k.bits))))
  | .shr => some (.int k (a.fdiv (2 ^ (min b.toNat k.bits))))
  | _ => none

def strBin (op : BinOp) (a b : ByteArray) : Option Value :=
  match op with
  | .add => if a.size + b.size ≤ 9223372036854775807 then some (.string (a ++ b)) else none
  | .eql => some (.bool (a.toList == b.toList))
  | .neq => some (.bool (!(a.toList == b.toList)))
  | .lss => some (.bool (Op.bytesLess a.toList b.toList))
  | .leq => some (.bool (Op.bytesLess a.toList b.toList || a.toList == b.toList))
  | .gtr => some (.bool (!(Op.bytesLess a.toList b.toList || a.toList == b.toList)))
  | .geq => some (.bool (!(Op.bytesLess a.toList b.toList)))
  | _ => none

/-- Equality of two values of a scalar type. -/
def scalEq (ty : Option Ty) (x y : AV) : Option Bool :=
  match kOf ty, x, y with
  | some (.int _), .v (.int k a), .v (.int k' b) => if k = k' then some (a == b) else none
  | some .bool, .v (.bool a), .v (.bool b) => some (a == b)
  | some .string, .v (.string a), .v (.string b) => some (a.toList == b.toList)
  | _, _, _ => none

def fieldsEq (P : Program) (l m : List AV) : List (Nat × TypeId) → Option Bool
  | [] => some true
  | (o, t) :: r =>
    match l[o]?, m[o]? with
    | some x, some y =>
      match scalEq (tyOf P t) x y with
      | some true => fieldsEq P l m r
      | some false => some false
      | none => none
    | _, _ => none

def cellsEq (ty : Option Ty) (l m : List AV) : Nat → Nat → Option Bool
  | _, 0 => some true
  | i, n + 1 =>
    match l[i]?, m[i]? with
    | some x, some y =>
      match scalEq ty x y with
      | some true => cellsEq ty l m (i + 1) n
      | some false => some false
      | none => none
    | _, _ => none

/-- Two values of this struct type are compared field by field, and no guard of the model's stands in the way. -/
def eqOk (P : Program) (t : TypeId) : Bool :=
  !(P.eqGuardType P.depth t) &&
  match P.underlying t with
  | some (.struct fs) => !(P.stoodInHeld t) && fs.all fun f => f.name != "_"
  | _ => true

def aggEq (P : Program) (t : TypeId) (l m : List AV) : Option Bool :=
  if eqOk P t = false then none else
  match tk P t with
  | some (.struct fs) => fieldsEq P l m fs
  | some (.array n e) => if (tyOf P e).map (fun t => t.size) = some 1 then cellsEq (tyOf P e) l m 0 n else none
  | _ => none

/-- Whether a slice is nil, where that is known. -/
def nilB : AV → Option Bool
  | .own _ _ _ n => if 0 < n then some false else none
  | .sl n _ => if 0 < n then some false else none
  | .v (.slice none _ _) => some true
  | _ => none
def binV (P : Program) (op : BinOp) (t : TypeId) (x y : AV) : Option AV :=
  match x, y with
  | .v (.int k a), .v (.int k' b) =>
    match op with
    | .shl | .shr => (shiftBin op k a b).map .v
    | _ => if k = k' then (intBin op k a b).map .v else none
  | .v (.string a), .v (.string b) => (strBin op a b).map .v
  | .v (.bool a), .v (.bool b) =>
    match op, tk P t with
    | .eql, some .bool => some (.b (a == b))
    | .neq, some .bool => some (.b (!(a == b)))
    | _, _ => none
  | .agg l, .agg m =>
    match op with
    | .eql => (aggEq P t l m).map fun r => .b r
    | .neq => (aggEq P t l m).map fun r => .b (!r)
    | _ => none
  | x, .v (.slice none 0 0) =>
    match op, tk P t with
    | .eql, some (.slice _) => (nilB x).map fun r => .b r
    | .neq, some (.slice _) => (nilB x).map fun r => .b (!r)
    | _, _ => none
  | _, _ => none

def unV (op : UnOp) (x : AV) : Option AV :=
  match op, x with
  | .not, .v (.bool b) => some (.b (!b))
  | .neg, .v (.int k n) => some (.v (.int k (k.wrap (0 - n))))
  | .xor, .v (.int k n) => (intBin .xor k (if k.signed then -1 else k.max) n).map .v
  | _, _ => none

def lenV (ty : Option Ty) (x : AV) : Option AV :=
  match kOf ty, x with
  | some (.slice _), .sl n _ => some (.i n)
  | some (.slice _), .own _ _ _ n => some (.i n)
  | some (.slice _), .v (.slice _ n _) => some (.i n)
  | some .string, .v (.string s) => some (.i s.size)
  | some (.array n _), _ => some (.i n)
  | _, _ => none

def max2 : AV → AV → Option AV
  | .v (.int k x), .v (.int _ y) => some (.v (.int k (if y > x then y else x)))
  | _, _ => none
def min2 : AV → AV → Option AV
  | .v (.int k x), .v (.int _ y) => some (.v (.int k (if y < x then y else x)))
  | _, _ => none
def foldA (f : AV → AV → Option AV) : AV → List AV → Option AV
  | x, [] => some x
  | x, y :: r => match f x y with | some z => foldA f z r | none => none

def convV (P : Program) (src dst : TypeId) (x : AV) : Option AV :=
  match tyOf P src, tk P dst, x with
  | some _, some (.int k), .v (.int _ n) => some (.v (.int k (k.wrap n)))
  | some _, some .string, .v (.string s) => some (.v (.string s))
  | _, _, _ => none

def indexV (P : Program) (t : TypeId) (x ix : AV) : Option AV :=
  match x, ix, tk P t with
  | .agg l, .v (.int _ i), some (.array n e) =>
    match tyOf P e with
    | some te => if 0 ≤ i ∧ i < n then partL te l (i.toNat * te.size) else none
    | none => none
  | .v (.string s), .v (.int _ i), some .string => if 0 ≤ i ∧ i.toNat < s.size then some (.v (.int .u8 (s.data[i.toNat]?.getD 0).toNat)) else none
  | _, _, _ => none

def indexAddrV (P : Program) (t : TypeId) (x ix : AV) : Option AV :=
  match x, ix, tk P t with
  | .sl n l, .v (.int _ i), some (.slice e) =>
    match tyOf P e with
    | some te => if 0 ≤ i ∧ i < n then some (.ele l (i.toNat * te.size)) else none
    | none => none
  | .own _ b o n, .v (.int _ i), some (.slice e) =>
    match tyOf P e with
    | some te => if 0 ≤ i ∧ i < n then some (.ptr b (o + i.toNat * te.size)) else none
    | none => none
  | .ptr b o, .v (.int _ i), some (.array n e) =>
    match tyOf P e with
    | some te => if 0 ≤ i ∧ i < n then some (.ptr b (o + i.toNat * te.size)) else none
    | none => none
  | .ele l o, .v (.int _ i), some (.array n e) =>
    match tyOf P e with
    | some te => if 0 ≤ i ∧ i < n then some (.ele l (o + i.toNat * te.size)) else none
    | none => none
  | _, _, _ => none

def fieldAddrV (P : Program) (s : TypeId) (x : AV) (f : Nat) : Option AV :=
  match tk P s with
  | some (.struct fs) =>
    match fs[f]? with
    | some (off, ft) =>
      if ((tyOf P ft).map (fun t => t.size)).getD 0 = 0 then none else
      match x with
      | .ptr b o => some (.ptr b (o + off))
      | .ele l o => some (.ele l (o + off))
      | _ => none
    | none => none
  | _ => none

def fieldV (P : Program) (s : TypeId) (x : AV) (f : Nat) : Option AV :=
  match tk P s, x with
  | some (.struct fs), .agg l =>
    match fs[f]? with
    | some (off, ft) =>
      match tyOf P ft with
      | some te => partL te l off
      | none => none
    | none => none
  | _, _ => none

def bound (dflt : Int) : Option AV → Option Int
  | none => some dflt
  | some (.v (.int _ i)) => some i
  | _ => none

def sliceV (P : Program) (t : TypeId) (x : AV) (lo hi : Option AV) : Option AV :=
  match x, tk P t with
  | .sl n l, some (.slice e) =>
    match tyOf P e, bound 0 lo, bound n hi with
    | some te, some a, some b => if 0 ≤ a ∧ a ≤ b ∧ b ≤ n then some (.sl (b.toNat - a.toNat) (l.drop (a.toNat * te.size))) else none
    | _, _, _ => none
  | .own z k o n, some (.slice e) =>
    match tyOf P e, bound 0 lo, bound n hi with
    | some te, some a, some b => if z = te.size ∧ 0 ≤ a ∧ a ≤ b ∧ b ≤ n then some (.own z k (o + a.toNat * z) (b.toNat - a.toNat)) else none
    | _, _, _ => none
  | .v (.string s), some .string =>
    match bound 0 lo, bound s.size hi with
    | some a, some b => if 0 ≤ a ∧ a ≤ b ∧ b ≤ s.size then some (.v (.string (s.extract a.toNat b.toNat))) else none
    | _, _ => none
  | .v (.slice none 0 0), some (.slice e) =>
    match tyOf P e, bound 0 lo, bound 0 hi with
    | some _, some a, some b => if 0 ≤ a ∧ a ≤ b ∧ b ≤ 0 then some (.v (.slice none 0 0)) else none
    | _, _, _ => none
  | _, _ => none

/-- Parts laid into the cells of a struct or an array: 'place i': where part i begins, and its size. -/
def fillA (place : Nat → Option (Nat × Nat)) : List AV → List (Nat × AV) → Option (List AV)
  | cells, [] => some cells
  | cells, (i, x) :: r =>
    match place i, cellsOf x with
    | some (o, s), some c => if c.length = s ∧ o + s ≤ cells.length then fillA place (cells.take o ++ c ++ cells.drop (o + s)) r else none
    | _, _ => none

def places (P : Program) : List (Nat × TypeId) → Option (List (Nat × Nat))
  | [] => some []
  | (o, t) :: r =>
    match tyOf P t, places P r with
    | some te, some l => some ((o, te.size) :: l)
    | _, _ => none

def buildV (P : Program) (t : TypeId) (parts : List (Nat × AV)) : Option AV :=
  match tyOf P t with
  | some ty =>
    match ty.zero, ty.k with
    | some z, .struct fs =>
      match places P fs with
      | some l => (fillA (fun i => l[i]?) (z.map .v) parts).map .agg
      | none => none
    | some z, .array _ e =>
      match tyOf P e with
      | some te => (fillA (fun i => some (i * te.size, te.size)) (z.map .v) parts).map .agg
      | none => none
    | _, _ => none
  | none => none

/-- The pure operations: their value hangs on the operands alone. -/
def popV (P : Program) (o : Op) (ev : Operand → AV) : Option AV :=
  match o with
  | .move x | .assign x => some (ev x)
  | .pick c a b =>
    match ev c with
    | .v (.bool t) => some (if t then ev a else ev b)
    | _ => none
  | .build t parts => buildV P t (parts.toList.map fun (i, x) => (i, ev x))
  | .nilCheck x =>
    match ev x with
    | .ptr b o => some (.ptr b o)
    | .ele l o => some (.ele l o)
    | .clo f l => some (.clo f l)
    | _ => none
  | .binOp op t x y _ => binV P op t (ev x) (ev y)
  | .unOp op _ x => unV op (ev x)
  | .convert s d x => convV P s d (ev x)
  | .makeFunc (.func f) first captured => if first.size = 0 then some (.clo f (captured.toList.map ev)) else none
  | .slice t x lo hi none => sliceV P t (ev x) (lo.map ev) (hi.map ev)
  | .fieldAddr s x f => fieldAddrV P s (ev x) f
  | .field s x f => fieldV P s (ev x) f
  | .indexAddr t x i => indexAddrV P t (ev x) (ev i)
  | .index t x i => indexV P t (ev x) (ev i)
  | .extract t i =>
    match ev t with
    | .tup l => l[i]?
    | _ => none
  | .call { callee := .builtin .len, args, argTypes } =>
    match args.toList, argTypes.toList with
    | [x], [t] => lenV (tyOf P t) (ev x)
    | _, _ => none
  | .call { callee := .builtin .max, args, argTypes := _ } =>
    match args.toList with
    | x :: r => foldA max2 (ev x) (r.map ev)
    | [] => none
  | .call { callee := .builtin .min, args, argTypes := _ } =>
    match args.toList with
    | x :: r => foldA min2 (ev x) (r.map ev)
    | [] => none
  | _ => none

/-- A load. -/
def loadV (P : Program) (H : Heap) (t : TypeId) (x : AV) : Option AV :=
  match tyOf P t, x with
  | some ty, .ptr b o =>
    match hget H b with
    | some k => partL ty k o
    | none => none
  | some ty, .ele l o => partL ty l o
  | _, _ => none

def setL : List AV → Nat → List AV → List AV
  | l, _, [] => l
  | l, o, x :: r => setL (l.set o x) (o + 1) r

/-- The first m elements (of size s) of what is appended: their cells. -/
def srcCells (H : Heap) (s : Nat) : AV → Option (Nat × List AV)
  | .own _ b o m =>
    match hget H b with
    | some k => if o + m * s ≤ k.length then some (m, (k.drop o).take (m * s)) else none
    | none => none
  | .sl m l => if m * s ≤ l.length then some (m, l.take (m * s)) else none
  | .v (.slice none 0 0) => some (0, [])
  | _ => none

def appendV (P : Program) (lim : Nat) (H : Heap) (t : TypeId) (x y : AV) : Option (AV × Heap) :=
  match tk P t with
  | some (.slice e) =>
    match tyOf P e with
    | some te =>
      match te.zero, srcCells H te.size y with
      | some z, some (m, new) =>
        if z.length = te.size ∧ 0 < te.size ∧ new.all storable then
          match x with
          | .own z b o n =>
            match hget H b with
            | some k =>
              if lim ≤ b ∧ z = te.size ∧ o + n * z ≤ k.length ∧ (n + m) * te.bytes ≤ 140737488355328 ∧ n + m ≤ 4611686018427387904 then
                some (.own z H.length 0 (n + m), hset H b none ++ [some ((k.drop o).take (n * z) ++ new)])
              else none
            | none => none
          | .v (.slice none 0 0) =>
            if m * te.bytes ≤ 140737488355328 ∧ m ≤ 4611686018427387904 then some (.own te.size H.length 0 m, H ++ [some new]) else none
          | _ => none
        else none
      | _, _ => none
    | none => none
  | _ => none

/-- Bytes, one by one. -/
def bytesOf : List AV → Option (List UInt8)
  | [] => some []
  | .v (.int .u8 n) :: r => if 0 ≤ n ∧ n ≤ 255 then (bytesOf r).map (UInt8.ofNat n.toNat :: ·) else none
  | _ => none

/-- 'string(b)' of a slice of bytes that holds at least one. -/
def backV (P : Program) (H : Heap) (k : TyK) (y : AV) : Option AV :=
  match k, srcCells H 1 y with
  | .slice e, some (m, new) =>
    match tk P e, bytesOf new with
    | some (.int .u8), some l => if 0 < m then some (.v (.string ⟨l.toArray⟩)) else none
    | _, _ => none
  | _, _ => none

/-- The operations that make or write memory. -/
def effV (P : Program) (lim : Nat) (o : Op) (ev : Operand → AV) (H : Heap) : Option (AV × Heap) :=
  match o with
  | .alloc t =>
    match tyOf P t with
    | some ty =>
      match ty.zero with
      | some z => some (.ptr H.length 0, H ++ [some (z.map .v)])
      | none => none
    | none => none
  | .box t x =>
    match tyOf P t, cellsOf (ev x) with
    | some _, some c => some (.ptr H.length 0, H ++ [some c])
    | _, _ => none
  | .store t a x =>
    match tyOf P t, ev a, cellsOf (ev x) with
    | some ty, .ptr b o, some c =>
      match hget H b with
      | some k => if lim ≤ b ∧ c.length = ty.size ∧ o + ty.size ≤ k.length then some (.v undef, hset H b (some (setL k o c))) else none
      | none => none
    | _, _, _ => none
  | .buildSlice t n parts =>
    match tk P t with
    | some (.slice e) =>
      match tyOf P e with
      | some te =>
        match te.zero with
        | some z =>
          if z.length = te.size ∧ 0 < te.size ∧ n * te.size ≤ 16777216 then
            match fillA (fun i => some (i * te.size, te.size)) ((List.replicate n (z.map .v)).flatten) (parts.toList.map fun (i, x) => (i, ev x)) with
            | some c => some (.own te.size H.length 0 n, H ++ [some c])
            | none => none
          else none
        | none => none
      | none => none
    | _ => none
  | .makeSlice t l c =>
    match tk P t, ev l, ev c with
    | some (.slice e), .v (.int _ n), .v (.int _ m) =>
      match tyOf P e with
      | some te =>
        match te.zero with
        | some z =>
          if z.length = te.size ∧ 0 < te.size ∧ 0 ≤ n ∧ n ≤ m ∧ m ≤ 4611686018427387904 ∧ te.bytes * m ≤ 140737488355328 then
            some (.own te.size H.length 0 n.toNat, H ++ [some (List.replicate m.toNat (z.map .v)).flatten])
          else none
        | none => none
      | none => none
    | _, _, _ => none
  | .call { callee := .builtin .append, args, argTypes } =>
    match args.toList, argTypes.toList with
    | [x, y], [t, u] => if t = u then appendV P lim H t (ev x) (ev y) else none
    | _, _ => none
  | .convert s d x =>
    match tyOf P s, tk P d, ev x with
    | some _, some (.slice e), .v (.string b) =>
      match tk P e with
      | some (.int .u8) => if b.size ≤ 9223372036854775807 then some (.sl b.size (b.data.toList.map fun c => .v (.int .u8 (c.toNat : Int))), H) else none
      | _ => none
    | some ty, some .string, y => (backV P H ty.k y).map (·, H)
    | _, _, _ => none
  | _ => none

/-- A call of a Go function: whom, with what. -/
def callV (o : Op) (ev : Operand → AV) : Option (FuncId × List AV) :=
  match o with
  | .call { callee := .value f, args, argTypes := _ } =>
    match ev f with
    | .clo g l => some (g, args.toList.map ev ++ l)
    | _ => none
  | _ => none

def isLoad (o : Op) : Option (TypeId × Operand) :=
  match o with
  | .load t a => some (t, a)
  | _ => none

/-- A call: the blocks below the first number are not written; whom, with what, in which memory. -/
abbrev CallF := Nat → FuncId → List AV → Heap → Option (AV × Heap)

/-- A value that is the very same in every world. -/
def exact : AV → Bool
  | .v _ => true
  | _ => false
def exacts : AV → Bool
  | .v _ => true
  | .tup l => l.all exact
  | .agg l => l.all exact
  | _ => false

/-- One operation. -/
def opV (P : Program) (call : CallF) (lim : Nat) (o : Op) (e : Env) (H : Heap) : Option (AV × Heap) :=
  match isLoad o with
  | some (t, a) => (loadV P H t (evO e a)).map (·, H)
  | none =>
    match callV o (evO e) with
    | some (f, args) => call lim f args H
    | none =>
      match popV P o (evO e) with
      | some x => some (x, H)
      | none => effV P lim o (evO e) H

def wantedA (ops : Array Oper) (e : Env) (o : Oper) : Option Bool :=
  match o.guard with
  | none => some true
  | some (j, want) =>
    match (ops[j]?).bind (·.dst) with
    | some d =>
      match e.get d with
      | .v (.bool b) => some (b == want)
      | .v _ => some false
      | _ => none
    | none => none

def runOps (P : Program) (call : CallF) (lim : Nat) (ops : Array Oper) : List Oper → Env → Heap → Option (Env × Heap)
  | [], e, H => some (e, H)
  | o :: r, e, H =>
    match wantedA ops e o with
    | some true =>
      match opV P call lim o.op e H with
      | some (x, H') => runOps P call lim ops r (e.put o.dst x) H'
      | none => none
    | some false => runOps P call lim ops r (e.put o.dst (.v undef)) H
    | none => none

/-- One operation that only reads (a pure one, a load, a call whose answer is the same in every world). -/
def quietV (P : Program) (call : CallF) (pure : FuncId → Bool) (o : Op) (e : Env) (H : Heap) : Option AV :=
  match isLoad o with
  | some (t, a) => loadV P H t (evO e a)
  | none =>
    match callV o (evO e) with
    | some (f, args) =>
      if pure f then
        match call H.length f args H with
        | some (x, _) => if exacts x then some x else none
        | none => none
      else none
    | none => popV P o (evO e)

def runQuiet (P : Program) (call : CallF) (pure : FuncId → Bool) (ops : Array Oper) : List Oper → Env → Heap → Option Env
  | [], e, _ => some e
  | o :: r, e, H =>
    match wantedA ops e o with
    | some true =>
      match quietV P call pure o.op e H with
      | some x => runQuiet P call pure ops r (e.put o.dst x) H
      | none => none
    | some false => runQuiet P call pure ops r (e.put o.dst (.v undef)) H
    | none => none

inductive Ex where
  | normal
  | exit (id : Nat)
  | ret

structure St where
  loc : Env
  H : Heap

/-- How a region that draws its order is taken. 'quiet n': its first n operations only read, in whatever order; the others follow in one forced order. 'led': those in 'lead' only read and may be taken first; behind them come those of 'mids', which write over nothing that those have read; where 'mids' names more than one order, the edges leave open which, and they write nothing that stood before; at last those of 'fin', one by one. Where 'mids' names more than one order: of what they leave, the slots 'live' and the new blocks 'keep' (counted from the region's start) live on. -/
inductive Draw where
  | quiet (n : Nat)
  | led (lead : List Nat) (mids : List (List Nat)) (fin live keep : List Nat)
  /-- as 'led', but behind 'lead' come first those of 'mid' in one order, which leave the memory as it is, and then 'lead2', which only read -/
  | led2 (lead mid lead2 : List Nat) (mids : List (List Nat)) (fin live keep : List Nat)
  /-- as 'led' with several orders, where these may write what stood before: all in the same way -/
  | ledL (lead : List Nat) (mids : List (List Nat)) (fin live keep : List Nat)

/-- What a function bears beside its code: the slots that live on behind a region; how each region that draws its order is taken. -/
structure FnA where
  fn : Func
  keep : List Nat
  draws : List (Nat × Draw)

def Env.getD : Env → Nat → AV → AV
  | [], _, d => d
  | (k, x) :: r, t, d => if t = k then x else Env.getD r t d
/-- Behind a region: the slots that live on, with what they hold now. -/
def trim (e loc : Env) : Env := loc.map fun p => (p.1, Env.getD (e.take (e.length - loc.length)) p.1 p.2)

def dsts (ops : Array Oper) : List Nat := ops.toList.filterMap (·.dst)
/-- Operations by their numbers. -/
def pick (ops : Array Oper) (l : List Nat) : List Oper := l.filterMap fun i => ops[i]?

/-- Of the new blocks (from number n on) those are left whose number is named. -/
def keepOnly (l : List Nat) (n : Nat) (H : Heap) : Heap := H.mapIdx fun i x => if i < n ∨ (i - n) ∈ l then x else none
/-- The slots that live on behind orders that differ. -/
def cutE (ops : Array Oper) (live : List Nat) (loc e : Env) : Env := live.map (fun t => (t, e.get t)) ++ (dsts ops).map (fun t => (t, .any)) ++ loc

/-- An operation that only reads, no call. -/
def takeV (P : Program) (o : Op) (e : Env) (H : Heap) : Option AV :=
  match isLoad o with
  | some (t, a) => loadV P H t (evO e a)
  | none =>
    match callV o (evO e) with
    | some _ => none
    | none => popV P o (evO e)
/-- The block of the call's own that an operation reads. -/
def rdV (o : Op) (e : Env) : List Nat :=
  match isLoad o with
  | some (_, a) => match evO e a with | .ptr b _ => [b] | _ => []
  | none => []
/-- The block that an operation writes over. -/
def wrV (o : Op) (e : Env) : Option Nat :=
  match o with
  | .store _ a _ => match evO e a with | .ptr b _ => some b | _ => none
  | .call { callee := .builtin .append, args, argTypes := _ } => match args.toList with | x :: _ => (match evO e x with | .own _ b _ _ => some b | _ => none) | [] => none
  | _ => none
def wrC (R : List Nat) (o : Oper) (e : Env) : Bool :=
  match wrV o.op e with
  | some b => !R.contains b
  | none => true
/-- Those that are taken first: what they yield, and the blocks that they read. -/
def runLead (P : Program) (ops : Array Oper) : List Oper → Env → Heap → List Nat → Option (Env × List Nat)
  | [], e, _, R => some (e, R)
  | o :: r, e, H, R =>
    match wantedA ops e o with
    | some true =>
      match takeV P o.op e H with
      | some x => runLead P ops r (e.put o.dst x) H (rdV o.op e ++ R)
      | none => none
    | some false => runLead P ops r (e.put o.dst (.v undef)) H R
    | none => none
/-- Operations in the middle: they write over no block of R. -/
def runMid (P : Program) (call : CallF) (lim : Nat) (ops : Array Oper) (R : List Nat) : List Oper → Env → Heap → Option (Env × Heap)
  | [], e, H => some (e, H)
  | o :: r, e, H =>
    if wrC R o e then
      match wantedA ops e o with
      | some true =>
        match opV P call lim o.op e H with
        | some (x, H') => runMid P call lim ops R r (e.put o.dst x) H'
        | none => none
      | some false => runMid P call lim ops R r (e.put o.dst (.v undef)) H
      | none => none
    else none

/-! ### The same, but for the numbers of the new blocks -/
def rnB (n0 : Nat) (p : List Nat) (b : Nat) : Nat := if b < n0 then b else n0 + p.idxOf (b - n0)
def ren (f : Nat → Nat) : Nat → AV → AV
  | 0, _ => .any
  | d + 1, x =>
    match x with
    | .own z b o n => .own z (f b) o n
    | .ptr b o => .ptr (f b) o
    | .sl n l => .sl n (l.map (ren f d))
    | .agg l => .agg (l.map (ren f d))
    | .tup l => .tup (l.map (ren f d))
    | .v x => .v x
    | _ => .any
/-- The state (e1, H1) is (e0, H0) where block n0 + p[k] of the one is block n0 + k of the other. -/
def SameBy (n0 : Nat) (live keep : List Nat) (e0 : Env) (H0 : Heap) (e1 : Env) (H1 : Heap) (p : List Nat) : Prop :=
  n0 ≤ H0.length ∧ H1.length = H0.length ∧ p.length = H0.length - n0 ∧ p.Nodup ∧ (∀ q ∈ p, q < p.length) ∧ (∀ q, q < p.length → q ∈ p) ∧
    (∀ t ∈ live, ren (rnB n0 p) 8 (e1.get t) = e0.get t) ∧ ∀ k ∈ keep, hget H0 (n0 + k) = (hget H1 (n0 + p.getD k 0)).map (List.map (ren (rnB n0 p) 8))
def SameUp (n0 : Nat) (live keep : List Nat) (e0 : Env) (H0 : Heap) (e1 : Env) (H1 : Heap) : Prop := ∃ p, SameBy n0 live keep e0 H0 e1 H1 p

def veq : Value → Value → Bool
  | .int k a, .int k' b => k == k' && a == b
  | .bool a, .bool b => a == b
  | .slice none n c, .slice none n' c' => n == n' && c == c'
  | _, _ => false
def leq {α : Type} (f : α → α → Bool) : List α → List α → Bool
  | [], [] => true
  | x :: l, y :: m => f x y && leq f l m
  | _, _ => false
def aveq : Nat → AV → AV → Bool
  | 0, _, _ => false
  | d + 1, x, y =>
    match x, y with
    | .any, .any => true
    | .v a, .v b => veq a b
    | .sl n l, .sl m k => n == m && leq (aveq d) l k
    | .own z b o n, .own z' b' o' n' => z == z' && b == b' && o == o' && n == n'
    | .ptr b o, .ptr b' o' => b == b' && o == o'
    | .agg l, .agg k => leq (aveq d) l k
    | .tup l, .tup k => leq (aveq d) l k
    | _, _ => false
def beq : Option Blk → Option Blk → Bool
  | none, none => true
  | some l, some k => leq (aveq 9) l k
  | _, _ => false
def ins (x : Nat) : List Nat → List (List Nat)
  | [] => [[x]]
  | y :: l => (x :: y :: l) :: (ins x l).map (y :: ·)
def perms : Nat → List (List Nat)
  | 0 => [[]]
  | n + 1 => (perms n).flatMap (ins n)
def sameB (n0 : Nat) (live keep : List Nat) (e0 : Env) (H0 : Heap) (e1 : Env) (H1 : Heap) : Bool :=
  decide (n0 ≤ H0.length) && H1.length == H0.length && (perms (H0.length - n0)).any fun p =>
    p.length == H0.length - n0 && decide p.Nodup && p.all (· < p.length) && (List.range p.length).all (p.contains ·) &&
      live.all (fun t => aveq 9 (ren (rnB n0 p) 8 (e1.get t)) (e0.get t)) && keep.all fun k => beq (hget H0 (n0 + k)) ((hget H1 (n0 + p.getD k 0)).map (List.map (ren (rnB n0 p) 8)))

open Classical in
/-- The other orders come to the same end. -/
noncomputable def altsOK (P : Program) (call : CallF) (ops : Array Oper) (live keep : List Nat) (n0 : Nat) (e : Env) (H : Heap) (e0 : Env) (H0 : Heap) : List (List Nat) → Bool
  | [] => true
  | m :: ms =>
    (match runOps P call n0 ops (pick ops m) e H with
    | some r => sameB n0 live keep e0 H0 r.1 r.2 || decide (SameUp n0 live keep e0 H0 r.1 r.2)
    | none => false) && altsOK P call ops live keep n0 e H e0 H0 ms

noncomputable def led (P : Program) (call : CallF) (lim : Nat) (ops : Array Oper) (lead : List Nat) (mids : List (List Nat)) (fin live keep : List Nat) (s : St) : Option St :=
  match runLead P ops (pick ops lead) s.loc s.H [], mids with
  | some (e, R), [m] =>
    match runMid P call lim ops R (pick ops m) e s.H with
    | some (e1, H1) => (runOps P call lim ops (pick ops fin) e1 H1).map fun (e', H') => ⟨trim e' s.loc, H'⟩
    | none => none
  | some (e, _), m :: m2 :: ms =>
    match runOps P call s.H.length ops (pick ops m) e s.H with
    | some (e1, H1) =>
      if altsOK P call ops live keep s.H.length e s.H e1 H1 (m2 :: ms) then
        (runOps P call lim ops (pick ops fin) (cutE ops live s.loc e1) (keepOnly keep s.H.length H1)).map fun (e', H') => ⟨trim e' s.loc, H'⟩
      else none
    | none => none
  | _, _ => none

open Classical in
noncomputable def led2 (P : Program) (call : CallF) (lim : Nat) (ops : Array Oper) (lead mid lead2 : List Nat) (mids : List (List Nat)) (fin live keep : List Nat) (s : St) : Option St :=
  match runLead P ops (pick ops lead) s.loc s.H [] with
  | some (e, R) =>
    match runOps P call s.H.length ops (pick ops mid) e s.H with
    | some (e1, H1) =>
      if H1 = s.H then
        match runLead P ops (pick ops lead2) e1 s.H R, mids with
        | some (e2, _), m :: ms =>
          match runOps P call s.H.length ops (pick ops m) e2 s.H with
          | some (e3, H3) =>
            if altsOK P call ops live keep s.H.length e2 s.H e3 H3 ms then
              (runOps P call lim ops (pick ops fin) (cutE ops live s.loc e3) (keepOnly keep s.H.length H3)).map fun (e', H') => ⟨trim e' s.loc, H'⟩
            else none
          | none => none
        | _, _ => none
      else none
    | none => none
  | none => none

/-- Reads, then one order; reads again, then one order; then the end. -/
noncomputable def led3 (P : Program) (call : CallF) (lim : Nat) (ops : Array Oper) (lead mid lead2 m fin : List Nat) (s : St) : Option St :=
  match runLead P ops (pick ops lead) s.loc s.H [] with
  | some (e, R) =>
    match runMid P call lim ops R (pick ops mid) e s.H with
    | some (e1, H1) =>
      match runLead P ops (pick ops lead2) e1 H1 [] with
      | some (e2, R2) =>
        match runMid P call lim ops R2 (pick ops m) e2 H1 with
        | some (e3, H3) => (runOps P call lim ops (pick ops fin) e3 H3).map fun (e', H') => ⟨trim e' s.loc, H'⟩
        | none => none
      | none => none
    | none => none
  | none => none
/-- Reads that may be taken first ('lead': of what these have read nothing is written in the middle), and reads that come ahead of the middle in every order ('lead2'); one order; then the end. -/
noncomputable def led4 (P : Program) (call : CallF) (lim : Nat) (ops : Array Oper) (lead lead2 m fin : List Nat) (s : St) : Option St :=
  match runLead P ops (pick ops lead) s.loc s.H [] with
  | some (e, R) =>
    match runLead P ops (pick ops lead2) e s.H R with
    | some (e2, _) =>
      match runMid P call lim ops R (pick ops m) e2 s.H with
      | some (e3, H3) => (runOps P call lim ops (pick ops fin) e3 H3).map fun (e', H') => ⟨trim e' s.loc, H'⟩
      | none => none
    | none => none
  | none => none
noncomputable def led23 (P : Program) (call : CallF) (lim : Nat) (ops : Array Oper) (lead mid lead2 : List Nat) (mids : List (List Nat)) (fin live keep : List Nat) (s : St) : Option St :=
  match mids with
  | [m] => if mid = [] then led4 P call lim ops lead lead2 m fin s else led3 P call lim ops lead mid lead2 m fin s
  | ms => led2 P call lim ops lead mid lead2 ms fin live keep s

def lowEq (n0 : Nat) (H0 H1 : Heap) : Prop := ∀ b, b < n0 → hget H0 b = hget H1 b
/-- Cells that hold plain values only. -/
def plainK (k : Blk) : Bool := k.all fun x => match x with | .v _ => true | _ => false
/-- The new blocks in l, and what stood before and holds plain values only. -/
def keepP (l : List Nat) (n : Nat) (H : Heap) : Heap := H.mapIdx fun i x => if i < n then (match x with | some k => if plainK k then some k else none | none => none) else if (i - n) ∈ l then x else none
open Classical in
noncomputable def altsL (P : Program) (call : CallF) (lim : Nat) (ops : Array Oper) (R live keep : List Nat) (n0 : Nat) (e : Env) (H : Heap) (e0 : Env) (H0 : Heap) : List (List Nat) → Bool
  | [] => true
  | m :: ms =>
    (match runMid P call lim ops R (pick ops m) e H with
    | some r => decide (SameUp n0 live keep e0 H0 r.1 r.2 ∧ lowEq n0 H0 r.2)
    | none => false) && altsL P call lim ops R live keep n0 e H e0 H0 ms
open Classical in
noncomputable def ledL (P : Program) (call : CallF) (lim : Nat) (ops : Array Oper) (lead : List Nat) (mids : List (List Nat)) (fin live keep : List Nat) (s : St) : Option St :=
  match runLead P ops (pick ops lead) s.loc s.H [], mids with
  | some (e, R), m :: ms =>
    match runMid P call lim ops R (pick ops m) e s.H with
    | some (e1, H1) =>
      if altsL P call lim ops R live keep s.H.length e s.H e1 H1 ms = true then
        (runOps P call lim ops (pick ops fin) (cutE ops live s.loc e1) (keepP keep s.H.length H1)).map fun (e', H') => ⟨trim e' s.loc, H'⟩
      else none
    | none => none
  | _, _ => none

noncomputable def region (P : Program) (call : CallF) (pure : FuncId → Bool) (lim : Nat) (draws : List (Nat × Draw)) (id : Nat) (ops : Array Oper) (draw : Bool) (s : St) : Option St :=
  if draw then
    match draws.lookup id with
    | some (.quiet n) =>
      match runQuiet P call pure ops (ops.toList.take n) s.loc s.H with
      | some e => (runOps P call lim ops (ops.toList.drop n) e s.H).map fun (e', H') => ⟨trim e' s.loc, H'⟩
      | none => none
    | some (.led lead mids fin live keep) => led P call lim ops lead mids fin live keep s
    | some (.led2 lead mid lead2 mids fin live keep) => led23 P call lim ops lead mid lead2 mids fin live keep s
    | some (.ledL lead mids fin live keep) => ledL P call lim ops lead mids fin live keep s
    | none => none
  else (runOps P call lim ops ops.toList s.loc s.H).map fun (e', H') => ⟨trim e' s.loc, H'⟩

noncomputable def exec (P : Program) (call : CallF) (pure : FuncId → Bool) (lim : Nat) (draws : List (Nat × Draw)) : Nat → Code → St → Option (Ex × St)
  | 0, _, _ => none
  | n + 1, c, s =>
    match c with
    | .skip => some (.normal, s)
    | .region id ops draw => (region P call pure lim draws id ops draw s).map (.normal, ·)
    | .seq a b =>
      match exec P call pure lim draws n a s with
      | some (.normal, s') => exec P call pure lim draws n b s'
      | r => r
    | .cond c x y =>
      match evO s.loc c with
      | .v (.bool t) => if t then exec P call pure lim draws n x s else exec P call pure lim draws n y s
      | _ => none
    | .block id b =>
      match exec P call pure lim draws n b s with
      | some (.exit j, s') => if j = id then some (.normal, s') else some (.exit j, s')
      | r => r
    | .loop b =>
      match exec P call pure lim draws n b s with
      | some (.normal, s') => exec P call pure lim draws n (.loop b) s'
      | r => r
    | .exit id => some (.exit id, s)
    | .ret => some (.ret, s)
    | _ => none

/-- What a function hands back is read whole: its own new memory becomes data. -/
def frz (H : Heap) (base : Nat) : Nat → AV → AV
  | 0, _ => .any
  | d + 1, x =>
    match x with
    | .own z b o n =>
      if b < base then .own z b o n else
      match hget H b with
      | some k => .sl n ((k.drop o).map (frz H base d))
      | none => .any
    | .ptr b o => if b < base then .ptr b o else .any
    | .sl n l => .sl n (l.map (frz H base d))
    | .agg l => .agg (l.map (frz H base d))
    | .tup l => .tup (l.map (frz H base d))
    | .v x => .v x
    | _ => .any

structure Sig where
  P : Program
  fns : FuncId → Option FnA
  /-- functions that are not walked: what they answer, as data -/
  prim : FuncId → Option (List AV → Heap → Option AV)
  /-- functions that may write the caller's memory, and whose answer stays the call's own memory -/
  own : FuncId → Bool
  /-- functions of plain answers (ints, bools, strings) that take what the caller's memory holds as data -/
  fz : FuncId → Bool := fun _ => false
  /-- functions that are not walked and that may write: what they answer and leave -/
  eff : FuncId → Option (Nat → List AV → Heap → Option (AV × Heap)) := fun _ => none

def Sig.pure (S : Sig) (f : FuncId) : Bool := !S.own f

def resA (P : Program) (e : Env) (H : Heap) : ResultVar → Option AV
  | .tmp t => some (e.get t)
  | .cell a t => loadV P H t (e.get a)

def resAll (P : Program) (e : Env) (H : Heap) : List ResultVar → Option (List AV)
  | [] => some []
  | r :: rs =>
    match resA P e H r, resAll P e H rs with
    | some x, some l => some (x :: l)
    | _, _ => none

def oneOr (l : List AV) : AV :=
  match l with
  | [x] => x
  | l => .tup l

def env0 (keep : List Nat) (args : List AV) : Env := keep.map fun k => (k, args[k]?.getD .any)

def finish (S : Sig) (own : Bool) (fa : FnA) (H0 : Heap) (r : Option (Ex × St)) : Option (AV × Heap) :=
  match r with
  | some (.exit _, _) | none => none
  | some (_, s) =>
    match resAll S.P s.loc s.H fa.fn.results.toList with
    | some l => if own then some (oneOr l, s.H) else some (frz s.H H0.length 8 (oneOr l), H0)
    | none => none

noncomputable def acall (S : Sig) : Nat → CallF
  | 0, _, _, _, _ => none
  | n + 1, lim, f, args, H =>
    match S.prim f with
    | some p => (p args H).map (·, H)
    | none =>
      match S.fns f with
      | some fa =>
        match fa.fn.body with
        | some c =>
          if S.fz f then
            match finish S false fa [] (exec S.P (acall S n) S.pure 0 fa.draws n c ⟨env0 fa.keep (args.map (frz H 0 8)), []⟩) with
            | some (r, _) => if exacts r then some (r, H) else none
            | none => none
          else finish S (S.own f) fa H (exec S.P (acall S n) S.pure (if S.own f then lim else H.length) fa.draws n c ⟨env0 fa.keep args, H⟩)
        | none => none
      | none =>
        match S.eff f with
        | some p => p lim args H
        | none => none

end Go.Am
end
section
namespace Go.Am
open Go
set_option linter.unusedSimpArgs false
set_option linter.unusedVariables false

/-- Where an abstract block lies: the block in the world's heap, the cell at which it begins, that block's size. -/
structure Loc where
  k : Nat
  base : Nat
  S : Nat

abbrev Phi := List (Option Loc)

inductive Den (φ : Phi) (I : Nat → Prop) (w : World) : AV → Value → Prop
  | any (x : Value) : Den φ I w .any x
  | v (x : Value) : Den φ I w (.v x) x
  | sl0 (l : List AV) (p : Option Addr) : Den φ I w (.sl 0 l) (.slice p 0 0)
  | sl (n : Nat) (l : List AV) (c : Nat) (a : Addr) (Y : Nat → Value) (hn : n ≤ c) (hc : c ≤ maxLen) (ha : a.spot = none) (hI : I a.block)
      (hY : ∀ (j : Nat) (x : AV), l[j]? = some x → w.cell? ⟨a.block, a.off + j, none⟩ = some (Y j)) (hD : ∀ (j : Nat) (x : AV), l[j]? = some x → Den φ I w x (Y j)) : Den φ I w (.sl n l) (.slice (some a) n c)
  | own0 (z b o : Nat) (h : φ[b]? = some none) : Den φ I w (.own z b o 0) (.slice none 0 0)
  | own (z b o n c off : Nat) (L : Loc) (h : φ[b]? = some (some L)) (hn : n ≤ c) (hc : c ≤ maxLen) (ho : c = 0 ∨ (off = L.base + o ∧ off + c * z ≤ L.S)) :
      Den φ I w (.own z b o n) (.slice (some ⟨L.k, off, none⟩) n c)
  | ptr (b o : Nat) (L : Loc) (h : φ[b]? = some (some L)) : Den φ I w (.ptr b o) (.pointer (some ⟨L.k, L.base + o, none⟩))
  | ele (l : List AV) (o : Nat) (a : Addr) (Y : Nat → Value) (ha : a.spot = none) (hI : I a.block)
      (hY : ∀ (j : Nat) (x : AV), l[j]? = some x → w.cell? ⟨a.block, a.off + j, none⟩ = some (Y j)) (hD : ∀ (j : Nat) (x : AV), l[j]? = some x → Den φ I w x (Y j)) :
      Den φ I w (.ele l o) (.pointer (some ⟨a.block, a.off + o, none⟩))
  | agg (l : List AV) (cs : Array Value) (hs : cs.size = l.length) (hD : ∀ (j : Nat) (x : AV) (y : Value), l[j]? = some x → cs[j]? = some y → Den φ I w x y) : Den φ I w (.agg l) (.agg cs)
  | tup (l : List AV) (cs : Array Value) (hs : cs.size = l.length) (hD : ∀ (j : Nat) (x : AV) (y : Value), l[j]? = some x → cs[j]? = some y → Den φ I w x y) : Den φ I w (.tup l) (.tuple cs)
  | clo (f : FuncId) (l : List AV) (cs : Array Value) (hs : cs.size = l.length) (hD : ∀ (j : Nat) (x : AV) (y : Value), l[j]? = some x → cs[j]? = some y → Den φ I w x y) :
      Den φ I w (.clo f l) (.func (.func f) #[] cs)

theorem Den.mono {φ φ' : Phi} {I I' : Nat → Prop} {w w' : World} (hp : φ <+: φ') (hI : ∀ k, I k → I' k) (hh : ∀ k, I k → w'.heap[k]? = w.heap[k]?) {x : AV} {y : Value} (h : Den φ I w x y) : Den φ' I' w' x y := by
  have pre : ∀ {b : Nat} {o : Option Loc}, φ[b]? = some o → φ'[b]? = some o := by
    intro b o hb
    obtain ⟨r, rfl⟩ := hp
    rw [List.getElem?_append_left (by have := List.getElem?_eq_some_iff.1 hb; exact this.1)]
    exact hb
  induction h with
  | any x => exact .any x
  | v x => exact .v x
  | sl0 l p => exact .sl0 l p
  | sl n l c a Y hn hc ha hIa hY hD ih =>
    exact .sl n l c a Y hn hc ha (hI _ hIa) (fun j x hj => by rw [World.cell?_of_block (w := w) (a := ⟨a.block, a.off + j, none⟩) (hh _ hIa)]; exact hY j x hj) ih
  | own0 z b o h => exact .own0 z b o (pre h)
  | own z b o n c off L h hn hc ho => exact .own z b o n c off L (pre h) hn hc ho
  | ptr b o L h => exact .ptr b o L (pre h)
  | ele l o a Y ha hIa hY hD ih =>
    exact .ele l o a Y ha (hI _ hIa) (fun j x hj => by rw [World.cell?_of_block (w := w) (a := ⟨a.block, a.off + j, none⟩) (hh _ hIa)]; exact hY j x hj) ih
  | agg l cs hs hD ih => exact .agg l cs hs ih
  | tup l cs hs hD ih => exact .tup l cs hs ih
  | clo f l cs hs hD ih => exact .clo f l cs hs ih

theorem addr_add (a : Addr) (j : Nat) (ha : a.spot = none) : a.add j = ⟨a.block, a.off + j, none⟩ := by
  unfold Addr.add
  split
  · subst_vars; cases a; simp_all
  · rfl


theorem den_v {φ : Phi} {I : Nat → Prop} {w : World} {x y : Value} (h : Den φ I w (.v x) y) : y = x := by cases h; rfl

section
variable {P : Program} {φ : Phi} {I : Nat → Prop} {w : World}

theorem tyOf_spec {t : TypeId} {ty : Ty} (h : tyOf P t = some ty) : ∃ i d, P.info? t = some i ∧ P.underlying t = some d ∧ ty = { size := i.size, bytes := i.bytes, agg := tyAgg d, k := tyK d, zero := i.zero.map fun z => z.cells.toList } := by
  unfold tyOf at h
  split at h
  · rename_i i d hi hd
    exact ⟨i, d, hi, hd, by simpa using h.symm⟩
  · cases h

theorem tyk_slice {t e : TypeId} (h : tk P t = some (.slice e)) : P.underlying t = some (.slice e) := by
  cases ht : tyOf P t with
  | none => simp [tk, kOf, ht] at h
  | some ty =>
    obtain ⟨i, d, hi, hd, rfl⟩ := tyOf_spec ht
    simp [tk, kOf, ht] at h
    cases d <;> simp [tyK] at h
    subst h; exact hd
theorem tyk_array {t e : TypeId} {n : Nat} (h : tk P t = some (.array n e)) : P.underlying t = some (.array n e) := by
  cases ht : tyOf P t with
  | none => simp [tk, kOf, ht] at h
  | some ty =>
    obtain ⟨i, d, hi, hd, rfl⟩ := tyOf_spec ht
    simp [tk, kOf, ht] at h
    cases d <;> simp [tyK] at h
    obtain ⟨rfl, rfl⟩ := h; exact hd
theorem tyk_bool {t : TypeId} (h : tk P t = some .bool) : P.underlying t = some .bool := by
  cases ht : tyOf P t with
  | none => simp [tk, kOf, ht] at h
  | some ty =>
    obtain ⟨i, d, hi, hd, rfl⟩ := tyOf_spec ht
    simp [tk, kOf, ht] at h
    cases d <;> simp [tyK] at h
    exact hd
theorem tyk_string {t : TypeId} (h : tk P t = some .string) : P.underlying t = some .string := by
  cases ht : tyOf P t with
  | none => simp [tk, kOf, ht] at h
  | some ty =>
    obtain ⟨i, d, hi, hd, rfl⟩ := tyOf_spec ht
    simp [tk, kOf, ht] at h
    cases d <;> simp [tyK] at h
    exact hd
theorem tyk_int {t : TypeId} {k : IntKind} (h : tk P t = some (.int k)) : P.underlying t = some (.int k) := by
  cases ht : tyOf P t with
  | none => simp [tk, kOf, ht] at h
  | some ty =>
    obtain ⟨i, d, hi, hd, rfl⟩ := tyOf_spec ht
    simp [tk, kOf, ht] at h
    cases d <;> simp [tyK] at h
    subst h; exact hd
theorem tyk_struct {t : TypeId} {fs : List (Nat × TypeId)} (h : tk P t = some (.struct fs)) : ∃ gs : Array Field, P.underlying t = some (.struct gs) ∧ fs = gs.toList.map fun f => (f.offset, f.type) := by
  cases ht : tyOf P t with
  | none => simp [tk, kOf, ht] at h
  | some ty =>
    obtain ⟨i, d, hi, hd, rfl⟩ := tyOf_spec ht
    simp [tk, kOf, ht] at h
    cases d <;> simp [tyK] at h
    exact ⟨_, hd, h.symm⟩

theorem run_sizeOf {t : TypeId} {ty : Ty} (h : tyOf P t = some ty) (w : World) : (sizeOf t).run P w = .ok ty.size w := by
  obtain ⟨i, d, hi, hd, rfl⟩ := tyOf_spec h
  simp [sizeOf, typeInfo, hi]
theorem run_isAgg {t : TypeId} {ty : Ty} (h : tyOf P t = some ty) (w : World) : (isAgg t).run P w = .ok ty.agg w := by
  obtain ⟨i, d, hi, hd, rfl⟩ := tyOf_spec h
  simp only [isAgg, Sem.run_bind, run_underlying hd, Result.andThen_ok]
  cases d <;> simp [tyAgg]

theorem part_sound {t : TypeId} {ty : Ty} (ht : tyOf P t = some ty) {l : List AV} {o : Nat} {r : AV} (h : partL ty l o = some r) {cs : Array Value} (hs : cs.size = l.length)
    (hD : ∀ (j : Nat) (x : AV) (y : Value), l[j]? = some x → cs[j]? = some y → Den φ I w x y) : ∃ y, (∀ w', (part t cs o).run P w' = .ok y w') ∧ Den φ I w r y := by
  unfold partL at h
  by_cases ha : ty.agg = true
  · simp only [ha, if_true] at h
    split at h
    · rename_i hl
      cases h
      refine ⟨.agg (cs.extract o (o + ty.size)), fun w' => ?_, .agg _ _ ?_ ?_⟩
      · simp [part, run_isAgg ht, ha, run_sizeOf ht]
      · simp; omega
      · intro j x y hx hy
        rw [List.getElem?_take] at hx
        split at hx
        · rename_i hj
          rw [List.getElem?_drop] at hx
          refine hD (o + j) x y hx ?_
          rw [Array.getElem?_extract] at hy
          split at hy
          · exact hy
          · cases hy
        · cases hx
    · cases h
  · simp only [ha] at h
    have hlt : o < l.length := by
      have := List.getElem?_eq_some_iff.1 h
      exact this.1
    refine ⟨cs[o]'(by omega), fun w' => ?_, hD o r _ h (by simp [hs, hlt])⟩
    have : cs[o]? = some (cs[o]'(by omega)) := by simp [hs, hlt]
    simp [part, run_isAgg ht, ha, this]

theorem scalEq_sound {t : TypeId} {x y : AV} {b : Bool} (h : scalEq (tyOf P t) x y = some b) {vx vy : Value} (hx : Den φ I w x vx) (hy : Den φ I w y vy) (d : Nat) (w' : World) :
    (Op.equalIn (d + 1) t vx vy).run P w' = .ok b w' := by
  unfold scalEq at h
  split at h
  · rename_i k a k' a' hk
    have := den_v hx; have := den_v hy; subst_vars
    split at h
    · subst_vars; cases h
      exact run_equalIn_int w' d t _ _ _ _ (tyk_int hk)
    · cases h
  · rename_i hk
    have := den_v hx; have := den_v hy; subst_vars
    cases h
    exact run_equalIn_bool' w' d t _ _ (tyk_bool hk)
  · rename_i hk
    have := den_v hx; have := den_v hy; subst_vars
    cases h
    exact run_equalIn_string w' d t _ _ (tyk_string hk)
  · cases h


theorem part_scalar {t : TypeId} {ty : Ty} (ht : tyOf P t = some ty) (ha : ty.agg = false) {cs : Array Value} {o : Nat} {y : Value} (hy : cs[o]? = some y) (w' : World) : (part t cs o).run P w' = .ok y w' := by
  simp [part, run_isAgg ht, ha, hy]

theorem scalEq_flat {t : TypeId} {x y : AV} {b : Bool} (h : scalEq (tyOf P t) x y = some b) : ∃ ty, tyOf P t = some ty ∧ ty.agg = false := by
  cases ht : tyOf P t with
  | none => simp [scalEq, kOf, ht] at h
  | some ty =>
    refine ⟨ty, rfl, ?_⟩
    obtain ⟨i, d, hi, hd, rfl⟩ := tyOf_spec ht
    simp only [scalEq, kOf, ht, Option.map_some] at h
    cases d <;> first | rfl | simp [tyK] at h

theorem fieldsEq_sound {l m : List AV} {xs ys : Array Value} (hsx : xs.size = l.length) (hsy : ys.size = m.length)
    (hx : ∀ (j : Nat) (x : AV) (y : Value), l[j]? = some x → xs[j]? = some y → Den φ I w x y) (hy : ∀ (j : Nat) (x : AV) (y : Value), m[j]? = some x → ys[j]? = some y → Den φ I w x y) (d : Nat) (w' : World) :
    ∀ (gs : List Field), (∀ f ∈ gs, f.name ≠ "_") → ∀ b, fieldsEq P l m (gs.map fun f => (f.offset, f.type)) = some b → (Op.eqFields (d + 1) xs ys gs).run P w' = .ok b w'
  | [], _, b, h => by
    simp [fieldsEq] at h
    subst h
    simp [Op.eqFields]
  | f :: gs, hn, b, h => by
    simp only [List.map_cons, fieldsEq] at h
    split at h
    · rename_i x y hlx hly
      have lx : f.offset < l.length := (List.getElem?_eq_some_iff.1 hlx).1
      have ly : f.offset < m.length := (List.getElem?_eq_some_iff.1 hly).1
      have ex : xs[f.offset]? = some (xs[f.offset]'(by omega)) := by simp [hsx, lx]
      have ey : ys[f.offset]? = some (ys[f.offset]'(by omega)) := by simp [hsy, ly]
      have hn0 : f.name ≠ "_" := hn f (by simp)
      split at h
      · rename_i hs
        obtain ⟨ty, ht, ha⟩ := scalEq_flat hs
        have ih := fieldsEq_sound hsx hsy hx hy d w' gs (fun g hg => hn g (by simp [hg])) b h
        have he := scalEq_sound hs (hx _ _ _ hlx ex) (hy _ _ _ hly ey) d w'
        simp [Op.eqFields, hn0, part_scalar ht ha ex, part_scalar ht ha ey, he, ih]
      · rename_i hs
        cases h
        obtain ⟨ty, ht, ha⟩ := scalEq_flat hs
        have he := scalEq_sound hs (hx _ _ _ hlx ex) (hy _ _ _ hly ey) d w'
        simp [Op.eqFields, hn0, part_scalar ht ha ex, part_scalar ht ha ey, he]
      · cases h
    · cases h

/-- The model's comparison of two arrays of one-cell elements, as a recursion. -/
theorem cellsEq_sound {e : TypeId} {te : Ty} (ht : tyOf P e = some te) (h1 : te.size = 1) {l m : List AV} {xs ys : Array Value} (hsx : xs.size = l.length) (hsy : ys.size = m.length)
    (hx : ∀ (j : Nat) (x : AV) (y : Value), l[j]? = some x → xs[j]? = some y → Den φ I w x y) (hy : ∀ (j : Nat) (x : AV) (y : Value), m[j]? = some x → ys[j]? = some y → Den φ I w x y) (d : Nat) (w' : World) :
    ∀ (n i : Nat) (b : Bool), cellsEq (tyOf P e) l m i n = some b →
      ((forIn (List.range' i n) ((none, ()) : Option Bool × Unit) fun i _ => do
        if (!(← Op.equalIn (d + 1) e (← part e xs (i * 1)) (← part e ys (i * 1)))) = true then pure (.done (some false, ())) else pure (.yield (none, ())) : Sem (Option Bool × Unit)).run P w') =
        .ok (if b then none else some false, ()) w'
  | 0, i, b, h => by
    simp [cellsEq] at h
    subst h
    simp
  | n + 1, i, b, h => by
    simp only [cellsEq] at h
    split at h
    · rename_i x y hlx hly
      have lx : i < l.length := (List.getElem?_eq_some_iff.1 hlx).1
      have ly : i < m.length := (List.getElem?_eq_some_iff.1 hly).1
      have ex : xs[i]? = some (xs[i]'(by omega)) := by simp [hsx, lx]
      have ey : ys[i]? = some (ys[i]'(by omega)) := by simp [hsy, ly]
      split at h
      · rename_i hs
        obtain ⟨ty, ht', ha⟩ := scalEq_flat hs
        have ih := cellsEq_sound ht h1 hsx hsy hx hy d w' n (i + 1) b h
        have he := scalEq_sound hs (hx _ _ _ hlx ex) (hy _ _ _ hly ey) d w'
        simp only [List.range'_succ, List.forIn_cons, Sem.run_bind, Nat.mul_one, part_scalar ht' ha ex, part_scalar ht' ha ey, he, Result.andThen_ok, Sem.run_ite, Bool.not_true, Bool.false_eq_true, if_false, Sem.run_pure]
        simpa using ih
      · rename_i hs
        cases h
        obtain ⟨ty, ht', ha⟩ := scalEq_flat hs
        have he := scalEq_sound hs (hx _ _ _ hlx ex) (hy _ _ _ hly ey) d w'
        simp only [List.range'_succ, List.forIn_cons, Sem.run_bind, Nat.mul_one, part_scalar ht' ha ex, part_scalar ht' ha ey, he, Result.andThen_ok, Sem.run_ite, Bool.not_false, if_true, Sem.run_pure]
        simp
      · cases h
    · cases h

theorem aggEq_sound {t : TypeId} {l m : List AV} {b : Bool} (h : aggEq P t l m = some b) {xs ys : Array Value} (hsx : xs.size = l.length) (hsy : ys.size = m.length)
    (hx : ∀ (j : Nat) (x : AV) (y : Value), l[j]? = some x → xs[j]? = some y → Den φ I w x y) (hy : ∀ (j : Nat) (x : AV) (y : Value), m[j]? = some x → ys[j]? = some y → Den φ I w x y) (d : Nat) (w' : World) :
    P.eqGuardType P.depth t = false ∧ (Op.equalIn (d + 2) t (.agg xs) (.agg ys)).run P w' = .ok b w' := by
  unfold aggEq at h
  split at h
  · cases h
  rename_i hok
  simp only [Bool.not_eq_false] at hok
  unfold eqOk at hok
  simp only [Bool.and_eq_true, Bool.not_eq_true'] at hok
  refine ⟨hok.1, ?_⟩
  split at h
  · rename_i fs hk
    obtain ⟨gs, hd, rfl⟩ := tyk_struct hk
    rw [hd] at hok
    simp only [Bool.and_eq_true, Bool.not_eq_true', Array.all_eq_true', bne_iff_ne] at hok
    have hf : P.fieldsOf t = gs := by simp [Program.fieldsOf, hd]
    rw [run_equalIn_struct w' (d + 1) t xs ys (by rw [hf]; exact hd) hok.2.1, hf]
    exact fieldsEq_sound hsx hsy hx hy d w' gs.toList (fun f hf => hok.2.2 f (by simpa using hf)) b h
  · rename_i n e hk
    split at h
    · rename_i h1
      cases ht : tyOf P e with
      | none => simp [ht] at h1
      | some te =>
        simp only [ht, Option.map_some, Option.some.injEq] at h1
        have hc := cellsEq_sound ht h1 hsx hsy hx hy d w' n 0 b h
        obtain ⟨D, hD⟩ : ∃ D, D = d + 1 := ⟨_, rfl⟩
        rw [← hD] at hc
        rw [show d + 2 = D + 1 by omega]
        clear hD
        simp only [Op.equalIn, Sem.run_bind, run_underlying (tyk_array hk), Result.andThen_ok, run_sizeOf ht, h1]
        simp only [Std.Legacy.Range.forIn_eq_forIn_range', Std.Legacy.Range.size, Nat.sub_zero, Nat.add_sub_cancel, Nat.div_one]
        rw [hc]
        cases b <;> simp
    · cases h
  · cases h

theorem run_equalIn_nil (w' : World) (d : Nat) (t e : TypeId) (ht : P.underlying t = some (.slice e)) (b : Option Addr) (n c : Nat) : (Op.equalIn (d + 1) t (.slice b n c) (.slice none 0 0)).run P w' = .ok b.isNone w' := by
  cases b <;> simp [Op.equalIn, run_underlying ht]
theorem nilB_sound {x : AV} {r : Bool} (h : nilB x = some r) {vx : Value} (hx : Den φ I w x vx) : ∃ b n c, vx = .slice b n c ∧ b.isNone = r := by
  unfold nilB at h
  split at h
  · split at h
    · cases h
      cases hx with
      | own0 => omega
      | own => exact ⟨_, _, _, rfl, rfl⟩
    · cases h
  · split at h
    · cases h
      cases hx with
      | sl0 => omega
      | sl => exact ⟨_, _, _, rfl, rfl⟩
    · cases h
  · cases h
    have := den_v hx
    subst this
    exact ⟨_, _, _, rfl, rfl⟩
  · cases h
theorem bin_sound {op : BinOp} {t : TypeId} {x y r : AV} (h : binV P op t x y = some r) {vx vy : Value} (hx : Den φ I w x vx) (hy : Den φ I w y vy) (xo yo : Operand) :
    ∃ z, (∀ w', ((do eqGuard op t xo yo vx vy; binOp op t vx vy : Sem Value)).run P w' = .ok z w') ∧ Den φ I w r z := by
  unfold binV at h
  split at h
  · rename_i k a k' b
    have := den_v hx; have := den_v hy; subst_vars
    split at h
    · simp only [shiftBin] at h
      split at h
      · cases h
      · simp only [Option.map_some, Option.some.injEq] at h
        subst h
        rename_i hb
        exact ⟨_, fun w' => by simp [eqGuard, binOp, Op.shift, hb], .v _⟩
    · simp only [shiftBin] at h
      split at h
      · cases h
      · simp only [Option.map_some, Option.some.injEq] at h
        subst h
        rename_i hb
        exact ⟨_, fun w' => by simp [eqGuard, binOp, Op.shift, hb], .v _⟩
    · split at h
      · subst_vars
        simp only [Option.map_eq_some_iff] at h
        obtain ⟨z, h1, rfl⟩ := h
        refine ⟨z, fun w' => ?_, .v _⟩
        cases op <;> simp [intBin] at h1 <;> simp_all [eqGuard, binOp, Op.intArith, Op.intDiv, Op.intBits, Op.intCmp]
      · cases h
  · rename_i a b
    have := den_v hx; have := den_v hy; subst_vars
    simp only [Option.map_eq_some_iff] at h
    obtain ⟨z, h1, rfl⟩ := h
    refine ⟨z, fun w' => ?_, .v _⟩
    cases op <;> simp [strBin] at h1 <;> simp [eqGuard, binOp, Op.stringOp] <;> first | (exact h1) | (obtain ⟨h2, rfl⟩ := h1; simp; omega) | skip
  · rename_i a b
    have := den_v hx; have := den_v hy; subst_vars
    split at h
    · rename_i hk
      cases h
      exact ⟨.bool (a == b), fun w' => by simp [eqGuard, binOp, Op.equal, Op.maxDepth, run_equalIn_bool' w' 9999 t a b (tyk_bool hk)], .v _⟩
    · rename_i hk
      cases h
      exact ⟨.bool (!(a == b)), fun w' => by simp [eqGuard, binOp, Op.equal, Op.maxDepth, run_equalIn_bool' w' 9999 t a b (tyk_bool hk)], .v _⟩
    · cases h
  · rename_i l m
    cases hx with
    | agg l xs hsx hx =>
    cases hy with
    | agg m ys hsy hy =>
    split at h
    · simp only [Option.map_eq_some_iff] at h
      obtain ⟨b, h1, rfl⟩ := h
      refine ⟨.bool b, fun w' => ?_, .v _⟩
      have := aggEq_sound h1 hsx hsy hx hy 9998 w'
      simp [run_eqGuard_agg w' .eql t xo yo xs ys this.1, run_eql_struct, this.2]
    · simp only [Option.map_eq_some_iff] at h
      obtain ⟨b, h1, rfl⟩ := h
      refine ⟨.bool (!b), fun w' => ?_, .v _⟩
      have := aggEq_sound h1 hsx hsy hx hy 9998 w'
      simp [run_eqGuard_agg w' .neq t xo yo xs ys this.1, run_neq_struct, this.2]
    · cases h
  · have hv := den_v hy
    subst hv
    split at h
    · rename_i hk
      simp only [Option.map_eq_some_iff] at h
      obtain ⟨b, h1, rfl⟩ := h
      obtain ⟨p, n, c, rfl, rfl⟩ := nilB_sound h1 hx
      exact ⟨.bool p.isNone, fun w' => by simp [eqGuard, binOp, Op.equal, Op.maxDepth, run_equalIn_nil w' 9999 t _ (tyk_slice hk)], .v _⟩
    · rename_i hk
      simp only [Option.map_eq_some_iff] at h
      obtain ⟨b, h1, rfl⟩ := h
      obtain ⟨p, n, c, rfl, rfl⟩ := nilB_sound h1 hx
      exact ⟨.bool (!p.isNone), fun w' => by simp [eqGuard, binOp, Op.equal, Op.maxDepth, run_equalIn_nil w' 9999 t _ (tyk_slice hk)], .v _⟩
    · cases h
  · cases h


theorem un_sound {op : UnOp} {x r : AV} (h : unV op x = some r) {vx : Value} (hx : Den φ I w x vx) : ∃ z, (∀ w', (Op.unary op vx).run P w' = .ok z w') ∧ Den φ I w r z := by
  unfold unV at h
  split at h
  · have := den_v hx; subst_vars; cases h
    exact ⟨_, fun w' => by simp [Op.unary], .v _⟩
  · have := den_v hx; subst_vars; cases h
    exact ⟨_, fun w' => by simp [Op.unary, Op.intArith], .v _⟩
  · have := den_v hx; subst_vars
    simp only [Option.map_eq_some_iff] at h
    obtain ⟨z, h1, rfl⟩ := h
    simp [intBin] at h1
    subst h1
    exact ⟨_, fun w' => by simp [Op.unary, Op.intBits], .v _⟩
  · cases h

theorem len_sound {t ot : TypeId} {x r : AV} (h : lenV (tyOf P t) x = some r) {vx : Value} (hx : Den φ I w x vx) : ∃ z, (∀ w', (Builtin.len_ #[t] ot #[vx]).run P w' = .ok z w') ∧ Den φ I w r z := by
  unfold lenV at h
  split at h
  · rename_i hk
    have hu := tyk_slice (P := P) (t := t) hk
    cases h
    cases hx with
    | sl0 l p => exact ⟨_, fun w' => by simp [Builtin.len_, run_underlying hu, goInt], .v _⟩
    | sl n l c a Y hn hc ha hI hY hD => exact ⟨_, fun w' => by simp [Builtin.len_, run_underlying hu, goInt], .v _⟩
  · rename_i hk
    have hu := tyk_slice (P := P) (t := t) hk
    cases h
    cases hx with
    | own0 z b o hb => exact ⟨_, fun w' => by simp [Builtin.len_, run_underlying hu, goInt], .v _⟩
    | own z b o n c off L hL hn hc ho => exact ⟨_, fun w' => by simp [Builtin.len_, run_underlying hu, goInt], .v _⟩
  · rename_i hk
    have hu := tyk_slice (P := P) (t := t) hk
    cases h
    have := den_v hx; subst_vars
    exact ⟨_, fun w' => by simp [Builtin.len_, run_underlying hu, goInt], .v _⟩
  · rename_i hk
    have hu := tyk_string (P := P) (t := t) hk
    cases h
    have := den_v hx; subst_vars
    exact ⟨_, fun w' => by simp [Builtin.len_, run_underlying hu, goInt], .v _⟩
  · rename_i n e hk
    have hu := tyk_array (P := P) (t := t) hk
    cases h
    exact ⟨_, fun w' => by simp [Builtin.len_, run_underlying hu, goInt], .v _⟩
  · cases h

theorem foldA_sound {f : AV → AV → Option AV} {g : Value → Value → Sem Value} (hfg : ∀ x y r, f x y = some r → ∀ vx vy, Den φ I w x vx → Den φ I w y vy → ∃ z, (∀ w', (g vx vy).run P w' = .ok z w') ∧ Den φ I w r z) :
    ∀ (l : List AV) (x r : AV), foldA f x l = some r → ∀ (vx : Value) (vl : List Value), Den φ I w x vx → vl.length = l.length → (∀ (j : Nat) (x : AV) (y : Value), l[j]? = some x → vl[j]? = some y → Den φ I w x y) →
      ∃ z, (∀ w', (vl.foldlM g vx).run P w' = .ok z w') ∧ Den φ I w r z
  | [], x, r, h, vx, vl, hx, hl, hd => by
    cases vl with
    | nil => simp [foldA] at h; subst h; exact ⟨vx, fun w' => by simp, hx⟩
    | cons a b => simp at hl
  | y :: l, x, r, h, vx, vl, hx, hl, hd => by
    cases vl with
    | nil => simp at hl
    | cons vy vl =>
      simp only [foldA] at h
      split at h
      · rename_i z hz
        obtain ⟨vz, h1, h2⟩ := hfg x y z hz vx vy hx (hd 0 y vy rfl rfl)
        obtain ⟨u, h3, h4⟩ := foldA_sound hfg l z r h vz vl h2 (by simpa using hl) (fun j a b ha hb => hd (j + 1) a b (by simpa using ha) (by simpa using hb))
        exact ⟨u, fun w' => by simp [h1, h3], h4⟩
      · cases h

theorem max2_sound : ∀ x y r, max2 x y = some r → ∀ vx vy, Den φ I w x vx → Den φ I w y vy → ∃ z, (∀ w', (Builtin.max2 vx vy).run P w' = .ok z w') ∧ Den φ I w r z := by
  intro x y r h vx vy hx hy
  unfold max2 at h
  split at h
  · have := den_v hx; have := den_v hy; subst_vars; cases h
    exact ⟨_, fun w' => by simp only [Builtin.max2]; rfl, .v _⟩
  · cases h
theorem min2_sound : ∀ x y r, min2 x y = some r → ∀ vx vy, Den φ I w x vx → Den φ I w y vy → ∃ z, (∀ w', (Builtin.min2 vx vy).run P w' = .ok z w') ∧ Den φ I w r z := by
  intro x y r h vx vy hx hy
  unfold min2 at h
  split at h
  · have := den_v hx; have := den_v hy; subst_vars; cases h
    exact ⟨_, fun w' => by simp only [Builtin.min2]; rfl, .v _⟩
  · cases h

theorem conv_sound {s d : TypeId} {x r : AV} (h : convV P s d x = some r) {vx : Value} (hx : Den φ I w x vx) : ∃ z, (∀ w', (convert s d vx).run P w' = .ok z w') ∧ Den φ I w r z := by
  unfold convV at h
  split at h
  · rename_i ty k k' n ht hk
    have := den_v hx; subst_vars; cases h
    obtain ⟨i, d', hi, hd, -⟩ := tyOf_spec ht
    exact ⟨_, fun w' => by simp [convert, run_underlying hd, run_underlying (tyk_int hk), Conv.intToInt], .v _⟩
  · rename_i ty s' ht hk
    have := den_v hx; subst_vars; cases h
    obtain ⟨i, d', hi, hd, -⟩ := tyOf_spec ht
    exact ⟨_, fun w' => by simp [convert, run_underlying hd, run_underlying (tyk_string hk)], .v _⟩
  · cases h

theorem str_get {s : ByteArray} {i : Nat} (h : i < s.size) : s[i]? = some (s.data[i]?.getD 0) := by
  have h' : i < s.data.size := h
  rw [getElem?_pos s i h, Array.getElem?_eq_getElem h']
  rfl

theorem index_sound {t : TypeId} {x ix r : AV} (h : indexV P t x ix = some r) {vx vi : Value} (hx : Den φ I w x vx) (hi : Den φ I w ix vi) : ∃ z, (∀ w', (Instr.index t vx vi).run P w' = .ok z w') ∧ Den φ I w r z := by
  unfold indexV at h
  split at h
  · rename_i l k i n e hk
    split at h
    · rename_i te ht
      split at h
      · rename_i hb
        have := den_v hi; subst_vars
        cases hx with
        | agg l cs hs hD =>
          obtain ⟨y, h1, h2⟩ := part_sound ht h hs hD
          exact ⟨y, fun w' => by simp [Instr.index, asIntOf, run_underlying (tyk_array hk), hb, run_sizeOf ht, h1], h2⟩
      · cases h
    · cases h
  · rename_i s k i hk
    split at h
    · rename_i hb
      have := den_v hx; have := den_v hi; subst_vars; cases h
      exact ⟨_, fun w' => by simp [Instr.index, asIntOf, run_underlying (tyk_string hk), hb.1, str_get hb.2], .v _⟩
    · cases h
  · cases h

theorem tyk_of {t : TypeId} {ty : Ty} (ht : tyOf P t = some ty) : tk P t = some ty.k := by simp [tk, kOf, ht]

theorem indexAddr_sound {t : TypeId} {x ix r : AV} (h : indexAddrV P t x ix = some r) {vx vi : Value} (hx : Den φ I w x vx) (hi : Den φ I w ix vi) : ∃ z, (∀ w', (Instr.indexAt t vx vi).run P w' = .ok z w') ∧ Den φ I w r z := by
  unfold indexAddrV at h
  split at h
  · rename_i n l k i e hk
    split at h
    · rename_i te ht
      split at h
      · rename_i hb
        have := den_v hi; subst_vars; cases h
        cases hx with
        | sl0 l p => simp at hb; omega
        | sl n l c a Y hn hc ha hI hY hD =>
          refine ⟨.pointer (some ⟨a.block, a.off + i.toNat * te.size, none⟩), fun w' => ?_, .ele l _ a Y ha hI hY hD⟩
          have e := addr_add a (i.toNat * te.size) ha
          simp [Instr.indexAt, asIntOf, run_underlying (tyk_slice hk), hb, run_sizeOf ht, e]
      · cases h
    · cases h
  · rename_i z b o n k i e hk
    split at h
    · rename_i te ht
      split at h
      · rename_i hb
        have := den_v hi; subst_vars; cases h
        cases hx with
        | own0 _ _ _ hb' => simp at hb; omega
        | own _ _ _ _ c off L hL hn hc ho =>
          have hof : off = L.base + o := by rcases ho with h0 | h0; · omega
                                            · exact h0.1
          subst hof
          refine ⟨.pointer (some ⟨L.k, L.base + (o + i.toNat * te.size), none⟩), fun w' => ?_, .ptr b _ L hL⟩
          have e := addr_add ⟨L.k, L.base + o, none⟩ (i.toNat * te.size) rfl
          simp [Instr.indexAt, asIntOf, run_underlying (tyk_slice hk), hb, run_sizeOf ht, e, Nat.add_assoc]
      · cases h
    · cases h
  · rename_i b o k i n e hk
    split at h
    · rename_i te ht
      split at h
      · rename_i hb
        have := den_v hi; subst_vars; cases h
        cases hx with
        | ptr b o L hL =>
          refine ⟨.pointer (some ⟨L.k, L.base + (o + i.toNat * te.size), none⟩), fun w' => ?_, .ptr b _ L hL⟩
          have e := addr_add ⟨L.k, L.base + o, none⟩ (i.toNat * te.size) rfl
          simp [Instr.indexAt, Instr.sureAddr, asIntOf, run_underlying (tyk_array hk), hb, run_sizeOf ht, e, Nat.add_assoc]
      · cases h
    · cases h
  · rename_i l o k i n e hk
    split at h
    · rename_i te ht
      split at h
      · rename_i hb
        have := den_v hi; subst_vars; cases h
        cases hx with
        | ele l o a Y ha hI hY hD =>
          refine ⟨.pointer (some ⟨a.block, a.off + (o + i.toNat * te.size), none⟩), fun w' => ?_, .ele l _ a Y ha hI hY hD⟩
          have e := addr_add ⟨a.block, a.off + o, none⟩ (i.toNat * te.size) rfl
          simp [Instr.indexAt, Instr.sureAddr, asIntOf, run_underlying (tyk_array hk), hb, run_sizeOf ht, e, Nat.add_assoc]
      · cases h
    · cases h
  · cases h

theorem fieldAddr_sound {s : TypeId} {x r : AV} {f : Nat} (h : fieldAddrV P s x f = some r) {vx : Value} (hx : Den φ I w x vx) : ∃ z, (∀ w', (Instr.fieldAt s vx f).run P w' = .ok z w') ∧ Den φ I w r z := by
  unfold fieldAddrV at h
  split at h
  · rename_i fs hk
    obtain ⟨gs, hu, rfl⟩ := tyk_struct hk
    split at h
    · rename_i off ft hf
      simp only [List.getElem?_map, Option.map_eq_some_iff] at hf
      obtain ⟨g, hg, he⟩ := hf
      have hg' : gs[f]? = some g := by simpa using hg
      simp at he
      obtain ⟨rfl, rfl⟩ := he
      split at h
      · cases h
      · rename_i hz
        cases ht : tyOf P g.type with
        | none => simp [ht] at hz
        | some te =>
          simp [ht] at hz
          split at h
          · cases h
            rename_i b o
            cases hx with
            | ptr _ _ L hL =>
              refine ⟨.pointer (some ⟨L.k, L.base + (o + g.offset), none⟩), fun w' => ?_, .ptr b _ L hL⟩
              have e := addr_add ⟨L.k, L.base + o, none⟩ g.offset rfl
              simp [Instr.fieldAt, run_underlying hu, hg', Instr.sureAddr, fieldPlace, run_sizeOf ht, hz, e, Nat.add_assoc]
          · cases h
            rename_i l o
            cases hx with
            | ele _ _ a Y ha hI hY hD =>
              refine ⟨.pointer (some ⟨a.block, a.off + (o + g.offset), none⟩), fun w' => ?_, .ele l _ a Y ha hI hY hD⟩
              have e := addr_add ⟨a.block, a.off + o, none⟩ g.offset rfl
              simp [Instr.fieldAt, run_underlying hu, hg', Instr.sureAddr, fieldPlace, run_sizeOf ht, hz, e, Nat.add_assoc]
          · cases h
    · cases h
  · cases h

theorem field_sound {s : TypeId} {x r : AV} {f : Nat} (h : fieldV P s x f = some r) {vx : Value} (hx : Den φ I w x vx) : ∃ z, (∀ w', (Instr.field s vx f).run P w' = .ok z w') ∧ Den φ I w r z := by
  unfold fieldV at h
  split at h
  · rename_i fs l hk
    obtain ⟨gs, hu, rfl⟩ := tyk_struct hk
    split at h
    · rename_i off ft hf
      simp only [List.getElem?_map, Option.map_eq_some_iff] at hf
      obtain ⟨g, hg, he⟩ := hf
      have hg' : gs[f]? = some g := by simpa using hg
      simp at he
      obtain ⟨rfl, rfl⟩ := he
      split at h
      · rename_i te ht
        cases hx with
        | agg l cs hs hD =>
          obtain ⟨y, h1, h2⟩ := part_sound ht h hs hD
          exact ⟨y, fun w' => by simp [Instr.field, run_underlying hu, hg', asAgg, h1], h2⟩
      · cases h
    · cases h
  · cases h


theorem bounds_run {ev : Operand → AV} {ρ : Operand → Value} (hD : ∀ x, Den φ I w (ev x) (ρ x)) (isS : Bool) (len cap : Nat) (lo hi : Option Operand) {a b : Int}
    (h1 : bound 0 (lo.map ev) = some a) (h2 : bound len (hi.map ev) = some b) (h3 : 0 ≤ a ∧ a ≤ b ∧ b ≤ len) (hc : len ≤ cap) (w' : World) :
    (Instr.sliceBounds isS len cap (lo.map ρ) (hi.map ρ) none).run P w' = .ok (a.toNat, b.toNat, cap) w' := by
  have key : ∀ (o : Option Operand) (d v : Int), bound d (o.map ev) = some v → (o = none ∧ v = d) ∨ ∃ x k, o = some x ∧ ρ x = .int k v := by
    intro o d v hb
    cases o with
    | none => simp [bound] at hb; exact .inl ⟨rfl, hb.symm⟩
    | some x =>
      simp only [Option.map_some] at hb
      unfold bound at hb
      split at hb
      · rename_i hh; cases hh
      · rename_i k i hh
        have hx := hD x
        cases hb
        simp only [Option.some.injEq] at hh
        rw [hh] at hx
        exact .inr ⟨x, k, rfl, den_v hx⟩
      · cases hb
  rcases key lo 0 a h1 with ⟨rfl, rfl⟩ | ⟨x, k, rfl, hx⟩ <;> rcases key hi len b h2 with ⟨rfl, rfl⟩ | ⟨y, k', rfl, hy⟩
  · simp [Instr.sliceBounds]
  · have : 0 ≤ b ∧ b ≤ (cap : Int) := by omega
    simp [Instr.sliceBounds, Instr.sliceBound, hy, asIntOf, this]
  · have : 0 ≤ a ∧ a ≤ (len : Int) := by omega
    simp [Instr.sliceBounds, Instr.sliceBound, hx, asIntOf, this]
  · have h4 : 0 ≤ b ∧ b ≤ (cap : Int) := by omega
    have h5 : 0 ≤ a ∧ a ≤ (b.toNat : Int) := by omega
    simp only [Instr.sliceBounds, Option.map_some, hx, hy, Instr.sliceBound, asIntOf, Sem.run_bind, Sem.run_pure, Result.andThen_ok, Sem.run_ite, h4, and_self, if_true, h5, Option.isSome_none]

theorem slice_sound {ev : Operand → AV} {ρ : Operand → Value} (hD : ∀ x, Den φ I w (ev x) (ρ x)) {t : TypeId} {x : Operand} {lo hi : Option Operand} {r : AV} (h : sliceV P t (ev x) (lo.map ev) (hi.map ev) = some r) :
    ∃ z, (∀ w', (Instr.sliceAt t (ρ x) (lo.map ρ) (hi.map ρ) none).run P w' = .ok z w') ∧ Den φ I w r z := by
  have hx := hD x
  unfold sliceV at h
  split at h
  · rename_i n l e hev hk
    split at h
    · rename_i te a b ht h1 h2
      split at h
      · rename_i h3
        cases h
        rw [hev] at hx
        generalize hvx : ρ x = vx at hx
        cases hx with
        | sl0 l p =>
          have e1 : a = 0 := by simp at h3; omega
          have e2 : b = 0 := by simp at h3; omega
          subst e1; subst e2
          have hb := fun w' => bounds_run (P := P) hD true 0 0 lo hi h1 h2 h3 (Nat.le_refl _) w'
          refine ⟨.slice p 0 0, fun w' => ?_, .sl0 _ _⟩
          simp only [Int.toNat_zero] at hb
          simp [Instr.sliceAt, run_underlying (tyk_slice hk), Instr.slice, hb, run_sizeOf ht]
        | sl n l c ad Y hn hc ha hI hY hDD =>
          have hb := fun w' => bounds_run (P := P) hD true n c lo hi h1 h2 h3 hn w'
          by_cases hca : c = a.toNat
          · have e1 : b.toNat - a.toNat = 0 := by omega
            have e2 : b = a := by omega
            rw [e1]
            subst hca; subst e2
            refine ⟨.slice (some ad) 0 0, fun w' => ?_, .sl0 _ _⟩
            simp [Instr.sliceAt, run_underlying (tyk_slice hk), Instr.slice, hb, run_sizeOf ht]
          · refine ⟨.slice (some ⟨ad.block, ad.off + a.toNat * te.size, none⟩) (b.toNat - a.toNat) (c - a.toNat), fun w' => ?_, ?_⟩
            · have e := addr_add ad (a.toNat * te.size) ha
              simp [Instr.sliceAt, run_underlying (tyk_slice hk), Instr.slice, hb, run_sizeOf ht, hca, e]
            · refine .sl _ _ _ ⟨ad.block, ad.off + a.toNat * te.size, none⟩ (fun j => Y (a.toNat * te.size + j)) (by omega) (by omega) rfl hI (fun j y hj => ?_) (fun j y hj => ?_)
              · rw [List.getElem?_drop] at hj
                have := hY _ _ hj
                simpa [Nat.add_assoc] using this
              · rw [List.getElem?_drop] at hj
                exact hDD _ _ hj
      · cases h
    · cases h
  · rename_i z k o n e hev hk
    split at h
    · rename_i te a b ht h1 h2
      split at h
      · rename_i h3
        obtain ⟨rfl, h3⟩ := h3
        cases h
        rw [hev] at hx
        generalize hvx : ρ x = vx at hx
        cases hx with
        | own0 _ _ _ hb' =>
          have e1 : a = 0 := by simp at h3; omega
          have e2 : b = 0 := by simp at h3; omega
          subst e1; subst e2
          have hb := fun w' => bounds_run (P := P) hD true 0 0 lo hi h1 h2 h3 (Nat.le_refl _) w'
          refine ⟨.slice none 0 0, fun w' => ?_, .own0 _ _ _ hb'⟩
          simp only [Int.toNat_zero] at hb
          simp [Instr.sliceAt, run_underlying (tyk_slice hk), Instr.slice, hb, run_sizeOf ht]
        | own _ _ _ _ c off L hL hn hc ho =>
          have hb := fun w' => bounds_run (P := P) hD true n c lo hi h1 h2 h3 hn w'
          by_cases hca : c = a.toNat
          · have e1 : b.toNat - a.toNat = 0 := by omega
            have e2 : b = a := by omega
            rw [e1]
            subst hca; subst e2
            refine ⟨.slice (some ⟨L.k, off, none⟩) 0 0, fun w' => ?_, .own _ _ _ _ 0 off L hL (Nat.le_refl _) (Nat.zero_le _) (.inl rfl)⟩
            simp [Instr.sliceAt, run_underlying (tyk_slice hk), Instr.slice, hb, run_sizeOf ht]
          · have ho' : off = L.base + o ∧ off + c * te.size ≤ L.S := by
              rcases ho with h0 | h0
              · omega
              · exact h0
            refine ⟨.slice (some ⟨L.k, off + a.toNat * te.size, none⟩) (b.toNat - a.toNat) (c - a.toNat), fun w' => ?_, ?_⟩
            · have e := addr_add ⟨L.k, off, none⟩ (a.toNat * te.size) rfl
              simp [Instr.sliceAt, run_underlying (tyk_slice hk), Instr.slice, hb, run_sizeOf ht, hca, e]
            · refine .own _ _ _ _ _ _ L hL (by omega) (by omega) (.inr ⟨by omega, ?_⟩)
              have : a.toNat * te.size + (c - a.toNat) * te.size = c * te.size := by rw [← Nat.add_mul]; congr 1; omega
              omega
      · cases h
    · cases h
  · rename_i s hev hk
    split at h
    · rename_i a b h1 h2
      split at h
      · rename_i h3
        cases h
        rw [hev] at hx
        have hvx := den_v hx
        have hb := fun w' => bounds_run (P := P) hD false s.size s.size lo hi h1 h2 h3 (Nat.le_refl _) w'
        exact ⟨_, fun w' => by simp [Instr.sliceAt, run_underlying (tyk_string hk), Instr.slice, hvx, hb], .v _⟩
      · cases h
    · cases h
  · rename_i e hev hk
    split at h
    · rename_i te a b ht h1 h2
      split at h
      · rename_i h3
        cases h
        rw [hev] at hx
        have hvx := den_v hx
        have e1 : a = 0 := by omega
        have e2 : b = 0 := by omega
        subst e1; subst e2
        have hb := fun w' => bounds_run (P := P) hD true 0 0 lo hi h1 h2 h3 (Nat.le_refl _) w'
        simp only [Int.toNat_zero] at hb
        exact ⟨.slice none 0 0, fun w' => by simp [Instr.sliceAt, run_underlying (tyk_slice hk), Instr.slice, hvx, hb, run_sizeOf ht], .v _⟩
      · cases h
    · cases h
  · cases h

end
end Go.Am
end
section
namespace Go.Am
open Go
def Tb (w : World) : Prop := Lib.TabIs Go.Proofs.Tryd.prog w "internal/strconv.uint64pow10" .u64 Lib.pow10Tab
end Go.Am
end
section
set_option linter.unusedVariables false
namespace Go.Proofs.YtfnapmdedmbdbaaDoor
open Go Go.Am Go.ChangeShapes Go.WideShapes Go.ChangeAt Go.RowKit
theorem ldG : Tryd.prog.globalNamed "internal/strconv.uint64pow10" = some 0 := by kernel_rfl
theorem ldT : (Tryd.prog.globals[0]?).map (·.type) = some 135 := by kernel_rfl
theorem ldD : (Rows.laid_internal_strconv_uint64pow10 : DataW Unit) = Lib.tabData .u64 Lib.pow10Tab := by rfl
theorem ldTab {W : World} {a b : String × DataW Unit} (h : laidMet Tryd.prog [a, b, ("internal/strconv.uint64pow10", Rows.laid_internal_strconv_uint64pow10)] W) : Lib.TabIs Tryd.prog W "internal/strconv.uint64pow10" .u64 Lib.pow10Tab := by
  rw [ldD] at h
  obtain ⟨ps, ⟨_, _, _, _, _, q1, _, _, _, _, ⟨_, _, _, _, _, q2, _, _, _, _, ⟨g', t', cs, fuel, p, q, hg', ht', hvar, hd, _, _⟩, _⟩, _⟩, _⟩ := h
  obtain rfl := Option.some.inj (ldG.symm.trans hg')
  obtain rfl := Option.some.inj (ldT.symm.trans ht')
  unfold Lib.TabIs
  rw [hvar, ← Lib.cells_of_tab Tryd.underlying135 Tryd.underlying49 (by kernel_rfl) (by kernel_rfl) hd]
theorem tb_keep {W w1 : World} (h : Lib.TabIs Tryd.prog W "internal/strconv.uint64pow10" .u64 Lib.pow10Tab) (hk : ∀ k, k < W.heap.size → w1.heap[k]? = W.heap[k]?) : Tb w1 := by
  unfold Tb
  unfold Lib.TabIs World.var? at *
  rw [ldG] at h ⊢
  simp only [Option.bind_some] at h ⊢
  have hlt : 0 < W.heap.size := by
    rcases Nat.lt_or_ge 0 W.heap.size with h' | h'
    · exact h'
    · simp [Array.getElem?_eq_none h'] at h
  rw [hk 0 hlt]
  exact h
def litsOf (d : DataW Unit) : Array Value :=
  match d with
  | .agg l => (l.map fun | .lit (.int k z) => Value.int k z | _ => Value.int .u8 0).toArray
  | _ => #[]
/-- The settled world, the tables laid. -/
noncomputable def ldWorld (os : Os) : World :=
  let w0 := World.holding Tryd.prog os ⟨#[], #[], []⟩
  let put := fun (h : Array Obj) (g : Nat) (cs : Array Value) => h.modify g fun
      | .cells _ t frozen => .cells cs t frozen
      | o => o
  { w0 with heap := put (put (put w0.heap 0 (litsOf Rows.laid_internal_strconv_uint64pow10)) 2 (litsOf Rows.laid_math_bits_deBruijn32tab)) 3 (litsOf Rows.laid_math_bits_deBruijn64tab) }
theorem ld_met (os : Os) (args : Array Value) : laidMet Tryd.prog Rows.pointsComparesRow.laid ((ldWorld os).forCall (fun _ _ => 0) ⟨#[], args, []⟩).memory :=
  laidMet_of_run' 200 (by kernel_rfl) (by kernel_rfl)
end Go.Proofs.YtfnapmdedmbdbaaDoor
end
section
set_option linter.unusedSectionVars false
namespace Go.Am
open Go
set_option linter.unusedSimpArgs false
set_option linter.unusedVariables false

def CellsOK (φ : Phi) (I : Nat → Prop) (w : World) (C : Array Value) (base : Nat) (cells : List AV) : Prop :=
  base + cells.length ≤ C.size ∧ ∀ (j : Nat) (x : AV), cells[j]? = some x → ∃ y, C[base + j]? = some y ∧ Den φ I w x y

structure Rel (lim : Nat) (φ : Phi) (I : Nat → Prop) (w : World) (H : Heap) : Prop where
  len : φ.length = H.length
  limle : lim ≤ H.length
  blk : ∀ (b : Nat) (k : Blk), hget H b = some k → (φ[b]? = some none ∧ k = []) ∨
    ∃ (L : Loc) (C : Array Value) (T : TypeId), φ[b]? = some (some L) ∧ w.heap[L.k]? = some (.cells C T (0, 0)) ∧ C.size = L.S ∧ CellsOK φ I w C L.base k
  disj : ∀ (b : Nat) (L : Loc), φ[b]? = some (some L) → ¬ I L.k ∧ L.k < w.heap.size
  inj : ∀ (b b' : Nat) (k k' : Blk) (L L' : Loc), hget H b = some k → hget H b' = some k' → φ[b]? = some (some L) → φ[b']? = some (some L') → L.k = L'.k → b = b'
  sep : ∀ (b b' : Nat) (L L' : Loc), b < lim → lim ≤ b' → φ[b]? = some (some L) → φ[b']? = some (some L') → L.k ≠ L'.k
  Ilt : ∀ k, I k → k < w.heap.size
  tab : ∀ w1 : World, (∀ k, I k → w1.heap[k]? = w.heap[k]?) → Tb w1

/-- Whether it is asked that no draw is taken back. -/
class Dn where
  p : Prop
variable [Dn]
/-- What lies below B is as it was. -/
structure Bel (B : Nat) (w w' : World) : Prop where
  os : w'.os = w.os
  tape : w'.tape = w.tape ∧ (Dn.p → w.drawn ≤ w'.drawn)
  output : w'.output = w.output
  size : w.heap.size ≤ w'.heap.size
  block : ∀ k, k < B → w'.heap[k]? = w.heap[k]?
theorem Bel.refl (B : Nat) (w : World) : Bel B w w := ⟨rfl, ⟨rfl, fun _ => Nat.le_refl _⟩, rfl, Nat.le_refl _, fun _ _ => rfl⟩
theorem Bel.trans {B : Nat} {a b c : World} (h : Bel B a b) (k : Bel B b c) : Bel B a c :=
  ⟨k.os.trans h.os, ⟨k.tape.1.trans h.tape.1, fun hd => Nat.le_trans (h.tape.2 hd) (k.tape.2 hd)⟩, k.output.trans h.output, Nat.le_trans h.size k.size, fun i hi => (k.block i hi).trans (h.block i hi)⟩
theorem Bel.mono {B B' : Nat} {w w' : World} (h : Bel B w w') (hB : B' ≤ B) : Bel B' w w' := ⟨h.os, h.tape, h.output, h.size, fun k hk => h.block k (Nat.lt_of_lt_of_le hk hB)⟩
structure Ext (lim : Nat) (φ : Phi) (I : Nat → Prop) (w : World) (φ' : Phi) (I' : Nat → Prop) (w' : World) : Prop where
  pre : φ <+: φ'
  I : ∀ k, I k → I' k
  old : ∀ k, k < w.heap.size → (∀ (b : Nat) (L : Loc), φ[b]? = some (some L) → L.k ≠ k) → w'.heap[k]? = w.heap[k]?
  lo : ∀ (b : Nat) (L : Loc), b < lim → φ[b]? = some (some L) → w'.heap[L.k]? = w.heap[L.k]?
  fresh : ∀ (b : Nat) (L : Loc), φ'[b]? = some (some L) → w.heap.size ≤ L.k ∨ ∃ (b0 : Nat) (L0 : Loc), φ[b0]? = some (some L0) ∧ L0.k = L.k
  os : w'.os = w.os
  tape : w'.tape = w.tape ∧ (Dn.p → w.drawn ≤ w'.drawn)
  output : w'.output = w.output
  size : w.heap.size ≤ w'.heap.size

theorem pre_get {φ φ' : Phi} (hp : φ <+: φ') {b : Nat} {o : Option Loc} (hb : φ[b]? = some o) : φ'[b]? = some o := by
  obtain ⟨r, rfl⟩ := hp
  rw [List.getElem?_append_left (List.getElem?_eq_some_iff.1 hb).1]
  exact hb

section
variable {P : Program} {lim : Nat} {φ φ' φ'' : Phi} {I I' I'' : Nat → Prop} {w w' w'' : World} {H H' : Heap}

theorem Ext.refl : Ext lim φ I w φ I w := ⟨List.prefix_refl _, fun _ h => h, fun _ _ _ => rfl, fun _ _ _ _ => rfl, fun b L h => .inr ⟨b, L, h, rfl⟩, rfl, ⟨rfl, fun _ => Nat.le_refl _⟩, rfl, Nat.le_refl _⟩

theorem Ext.trans (h : Ext lim φ I w φ' I' w') (g : Ext lim φ' I' w' φ'' I'' w'') : Ext lim φ I w φ'' I'' w'' where
  pre := h.pre.trans g.pre
  I := fun k hk => g.I k (h.I k hk)
  old := fun k hk hn => by
    rw [g.old k (Nat.lt_of_lt_of_le hk h.size) (fun b L hb e => ?_), h.old k hk hn]
    rcases h.fresh b L hb with h1 | ⟨b0, L0, h2, h3⟩
    · omega
    · exact hn b0 L0 h2 (h3.trans e)
  lo := fun b L hb hL => by rw [g.lo b L hb (pre_get h.pre hL), h.lo b L hb hL]
  fresh := fun b L hb => by
    rcases g.fresh b L hb with h1 | ⟨b0, L0, h2, h3⟩
    · exact .inl (Nat.le_trans h.size h1)
    · rcases h.fresh b0 L0 h2 with h4 | ⟨b1, L1, h5, h6⟩
      · exact .inl (by omega)
      · exact .inr ⟨b1, L1, h5, h6.trans h3⟩
  os := g.os.trans h.os
  tape := ⟨g.tape.1.trans h.tape.1, fun hd => Nat.le_trans (h.tape.2 hd) (g.tape.2 hd)⟩
  output := g.output.trans h.output
  size := Nat.le_trans h.size g.size

theorem Rel.tab_to (hR : Rel lim φ I w H) (hI : ∀ k, I k → I' k) (h : ∀ k, I k → w'.heap[k]? = w.heap[k]?) : ∀ w1 : World, (∀ k, I' k → w1.heap[k]? = w'.heap[k]?) → Tb w1 :=
  fun w1 g => hR.tab w1 fun k hk => (g k (hI k hk)).trans (h k hk)
theorem Rel.tab_here (hR : Rel lim φ I w H) : Tb w := hR.tab w fun _ _ => rfl

theorem Rel.keepI (hR : Rel lim φ I w H) (h : Ext lim φ I w φ' I' w') : ∀ k, I k → w'.heap[k]? = w.heap[k]? :=
  fun k hk => h.old k (hR.Ilt k hk) fun b L hb e => (hR.disj b L hb).1 (e ▸ hk)

theorem Den.ext (hR : Rel lim φ I w H) (h : Ext lim φ I w φ' I' w') {x : AV} {y : Value} (hd : Den φ I w x y) : Den φ' I' w' x y :=
  hd.mono h.pre h.I (hR.keepI h)

/-- Only draws have passed. -/
theorem Rel.drew (hR : Rel lim φ I w H) (n : Nat) : Rel lim φ I { w with drawn := n } H where
  len := hR.len
  tab := hR.tab
  limle := hR.limle
  blk := fun b k hk => by
    rcases hR.blk b k hk with h | ⟨L, C, T, h1, h2, h3, h5, h6⟩
    · exact .inl h
    · exact .inr ⟨L, C, T, h1, h2, h3, h5, fun j x hx => by obtain ⟨y, e1, e2⟩ := h6 j x hx; exact ⟨y, e1, Den.mono (w := w) (w' := { w with drawn := n }) (List.prefix_refl _) (fun _ h => h) (fun _ _ => rfl) e2⟩⟩
  disj := hR.disj
  inj := hR.inj
  sep := hR.sep
  Ilt := hR.Ilt
theorem Ext.drew (n : Nat) (hn : w.drawn ≤ n := by exact Nat.le_succ _) : Ext lim φ I w φ I { w with drawn := n } :=
  ⟨List.prefix_refl _, fun _ h => h, fun _ _ _ => rfl, fun _ _ _ _ => rfl, fun b L h => .inr ⟨b, L, h, rfl⟩, rfl, ⟨rfl, fun _ => hn⟩, rfl, Nat.le_refl _⟩

/-! ### Loads -/
theorem loadVar_sound {t : TypeId} {ty : Ty} (ht : tyOf P t = some ty) {l : List AV} {o : Nat} {r : AV} (h : partL ty l o = some r) (a : Addr) (ha : a.spot = none)
    (hc : ∀ (j : Nat) (x : AV), l[j]? = some x → ∃ y, w.cell? ⟨a.block, a.off + j, none⟩ = some y ∧ Den φ I w x y) :
    ∃ y, (∀ w' : World, (∀ p : Addr, p.block = a.block → w'.cell? p = w.cell? p) → (loadVar t ⟨a.block, a.off + o, none⟩).run P w' = .ok y w') ∧ Den φ I w r y := by
  unfold partL at h
  by_cases hag : ty.agg = true
  · simp only [hag, if_true] at h
    split at h
    · rename_i hl
      cases h
      have hf : ∀ j, ∃ y, j < ty.size → w.cell? ⟨a.block, a.off + o + j, none⟩ = some y ∧ ∀ x, l[o + j]? = some x → Den φ I w x y := by
        intro j
        by_cases hj : j < ty.size
        · have hx : l[o + j]? = some (l[o + j]'(by omega)) := List.getElem?_eq_getElem _
          obtain ⟨y, h1, h2⟩ := hc (o + j) _ hx
          exact ⟨y, fun _ => ⟨by rw [Nat.add_assoc]; exact h1, fun x hx' => by rw [hx] at hx'; cases hx'; exact h2⟩⟩
        · exact ⟨undef, fun hh => absurd hh hj⟩
      let Y := fun j => Classical.choose (hf j)
      have hY : ∀ j, j < ty.size → w.cell? ⟨a.block, a.off + o + j, none⟩ = some (Y j) ∧ ∀ x, l[o + j]? = some x → Den φ I w x (Y j) := fun j hj => Classical.choose_spec (hf j) hj
      refine ⟨.agg ((List.range ty.size).map Y).toArray, fun w' hw' => ?_, .agg _ _ (by simp; omega) fun j x y hx hy => ?_⟩
      · have := run_loadCells (P := P) w' ⟨a.block, a.off + o, none⟩ ty.size Y (fun j hj => by rw [addr_add _ _ rfl, hw' ⟨a.block, a.off + o + j, none⟩ rfl]; exact (hY j hj).1)
        simp [loadVar, run_isAgg ht, hag, run_sizeOf ht, this]
      · rw [List.getElem?_take] at hx
        split at hx
        · rename_i hj
          rw [List.getElem?_drop] at hx
          simp [hj] at hy
          subst hy
          exact (hY j hj).2 x hx
        · cases hx
    · cases h
  · simp only [hag] at h
    obtain ⟨y, h1, h2⟩ := hc o r h
    refine ⟨y, fun w' hw' => ?_, h2⟩
    simp [loadVar, run_isAgg ht, hag, hw' ⟨a.block, a.off + o, none⟩ rfl, h1]

theorem load_sound (hR : Rel lim φ I w H) {t : TypeId} {x r : AV} (h : loadV P H t x = some r) {vx : Value} (hx : Den φ I w x vx) :
    ∃ y, (∀ w' : World, (∀ k, k < w.heap.size → w'.heap[k]? = w.heap[k]?) → (Instr.loadAt t vx).run P w' = .ok y w') ∧ Den φ I w r y := by
  unfold loadV at h
  split at h
  · rename_i ty b o ht
    split at h
    · rename_i k hk
      cases hx with
      | ptr b o L hL =>
        rcases hR.blk b k hk with ⟨h1, h2⟩ | ⟨L', C, T, h1, h2, h3, h5, h6⟩
        · rw [hL] at h1; cases h1
        · rw [hL] at h1; cases h1
          obtain ⟨y, e1, e2⟩ := loadVar_sound (P := P) (w := w) (φ := φ) (I := I) ht h ⟨L.k, L.base, none⟩ rfl (fun j x hj => by
            obtain ⟨y, g1, g2⟩ := h6 j x hj
            exact ⟨y, by rw [cell_of_row w L.k _ C T _ h2]; exact g1, g2⟩)
          refine ⟨y, fun w' hw' => ?_, e2⟩
          have := e1 w' (fun p hp => World.cell?_of_block (w := w) (w' := w') (a := p) (by rw [hp]; exact hw' _ (hR.disj b L hL).2))
          simpa [Instr.loadAt, Instr.sureAddr] using this
    · cases h
  · rename_i ty l o ht
    cases hx with
    | ele l o a Y ha hI hY hD =>
      obtain ⟨y, e1, e2⟩ := loadVar_sound (P := P) (w := w) (φ := φ) (I := I) ht h a ha (fun j x hj => ⟨Y j, hY j x hj, hD j x hj⟩)
      refine ⟨y, fun w' hw' => ?_, e2⟩
      have := e1 w' (fun p hp => World.cell?_of_block (w := w) (w' := w') (a := p) (by rw [hp]; exact hw' _ (hR.Ilt _ hI)))
      simpa [Instr.loadAt, Instr.sureAddr] using this
  · cases h

/-! ### New blocks -/
theorem hget_append_old {H : Heap} {x : Option Blk} {b : Nat} (hb : b < H.length) : hget (H ++ [x]) b = hget H b := by
  simp [hget, List.getElem?_append_left hb]
theorem hget_append_new {H : Heap} {x : Option Blk} : hget (H ++ [x]) H.length = x := by simp [hget]
omit [Dn] in
theorem hget_lt {H : Heap} {b : Nat} {k : Blk} (h : hget H b = some k) : b < H.length := by
  unfold hget at h
  cases hh : H[b]? with
  | none => simp [hh] at h
  | some x => exact (List.getElem?_eq_some_iff.1 hh).1

theorem alloc_sound (hR : Rel lim φ I w H) {C : Array Value} {T : TypeId} {cells : List AV} (hc : CellsOK φ I w C 0 cells)
    {w' : World} (hh : w'.heap = w.heap.push (.cells C T)) (e1 : w'.os = w.os) (e2 : w'.tape = w.tape ∧ (Dn.p → w.drawn ≤ w'.drawn)) (e3 : w'.output = w.output) :
    Rel lim (φ ++ [some ⟨w.heap.size, 0, C.size⟩]) I w' (H ++ [some cells]) ∧ Ext lim φ I w (φ ++ [some ⟨w.heap.size, 0, C.size⟩]) I w' := by
  have hold : ∀ k, k < w.heap.size → w'.heap[k]? = w.heap[k]? := fun k hk => by rw [hh, Array.getElem?_push, if_neg (by omega)]
  have hext : Ext lim φ I w (φ ++ [some ⟨w.heap.size, 0, C.size⟩]) I w' := by
    refine ⟨List.prefix_append _ _, fun _ h => h, fun k hk _ => hold k hk, fun b L hb hL => hold _ (hR.disj b L hL).2, fun b L hb => ?_, e1, e2, e3, by rw [hh]; simp⟩
    rcases Nat.lt_or_ge b φ.length with h | h
    · rw [List.getElem?_append_left h] at hb
      exact .inr ⟨b, L, hb, rfl⟩
    · rw [List.getElem?_append_right h] at hb
      have : b - φ.length = 0 := by
        rcases Nat.eq_zero_or_pos (b - φ.length) with h0 | h0
        · exact h0
        · rw [List.getElem?_eq_none (by simp; omega)] at hb; cases hb
      rw [this] at hb
      simp at hb
      exact .inl (by rw [← hb]; exact Nat.le_refl _)
  have hnew : (φ ++ [some ⟨w.heap.size, 0, C.size⟩])[φ.length]? = some (some ⟨w.heap.size, 0, C.size⟩) := by simp
  have hcase : ∀ (b : Nat) (L : Loc), (φ ++ [some ⟨w.heap.size, 0, C.size⟩])[b]? = some (some L) → (φ[b]? = some (some L)) ∨ (b = φ.length ∧ L = ⟨w.heap.size, 0, C.size⟩) := by
    intro b L hb
    rcases Nat.lt_or_ge b φ.length with h | h
    · rw [List.getElem?_append_left h] at hb
      exact .inl hb
    · rw [List.getElem?_append_right h] at hb
      have : b - φ.length = 0 := by
        rcases Nat.eq_zero_or_pos (b - φ.length) with h0 | h0
        · exact h0
        · rw [List.getElem?_eq_none (by simp; omega)] at hb; cases hb
      rw [this] at hb
      simp at hb
      exact .inr ⟨by omega, hb.symm⟩
  have hcell : ∀ {C' : Array Value} {base : Nat} {cs : List AV}, CellsOK φ I w C' base cs → CellsOK (φ ++ [some ⟨w.heap.size, 0, C.size⟩]) I w' C' base cs :=
    fun h => ⟨h.1, fun j x hx => by obtain ⟨y, g1, g2⟩ := h.2 j x hx; exact ⟨y, g1, g2.ext hR hext⟩⟩
  refine ⟨⟨by simp [hR.len], by simp; have := hR.limle; omega, fun b k hk => ?_, fun b L hb => ?_, fun b b' k k' L L' hk hk' hL hL' he => ?_, fun b b' L L' hb hb' hL hL' => ?_, fun k hk => ?_, hR.tab_to (fun _ h => h) (hR.keepI hext)⟩, hext⟩
  · rcases Nat.lt_or_ge b H.length with hb | hb
    · rw [hget_append_old hb] at hk
      rcases hR.blk b k hk with ⟨h1, h2⟩ | ⟨L, C', T', h1, h2, h3, h5⟩
      · exact .inl ⟨pre_get hext.pre h1, h2⟩
      · exact .inr ⟨L, C', T', pre_get hext.pre h1, by rw [hold _ (hR.disj b L h1).2]; exact h2, h3, hcell h5⟩
    · have : b = H.length := by have := hget_lt hk; simp at this; omega
      subst this
      rw [hget_append_new] at hk
      cases hk
      exact .inr ⟨_, C, T, by rw [← hR.len]; exact hnew, by rw [hh]; simp, rfl, hcell hc⟩
  · rcases hcase b L hb with h | ⟨h1, h2⟩
    · have := hR.disj b L h
      exact ⟨this.1, by rw [hh]; simp; omega⟩
    · subst h2
      exact ⟨fun hi => by have := hR.Ilt _ hi; simp at this, by rw [hh]; simp⟩
  · rcases hcase b L hL with h | ⟨h1, h2⟩ <;> rcases hcase b' L' hL' with h' | ⟨h1', h2'⟩
    · have l1 : b < H.length := by rw [← hR.len]; exact (List.getElem?_eq_some_iff.1 h).1
      have l2 : b' < H.length := by rw [← hR.len]; exact (List.getElem?_eq_some_iff.1 h').1
      rw [hget_append_old l1] at hk
      rw [hget_append_old l2] at hk'
      exact hR.inj b b' k k' L L' hk hk' h h' he
    · have := (hR.disj b L h).2; subst h2'; simp at he; omega
    · have := (hR.disj b' L' h').2; subst h2; simp at he; omega
    · omega
  · rcases hcase b' L' hL' with h' | ⟨h1', h2'⟩
    · rcases hcase b L hL with h | ⟨h1, h2⟩
      · exact hR.sep b b' L L' hb hb' h h'
      · have := hR.limle; have := hR.len; omega
    · rcases hcase b L hL with h | ⟨h1, h2⟩
      · have := (hR.disj b L h).2; subst h2'; simp; omega
      · have := hR.limle; have := hR.len; omega
  · have := hR.Ilt k hk; rw [hh]; simp; omega

end
end Go.Am
end
