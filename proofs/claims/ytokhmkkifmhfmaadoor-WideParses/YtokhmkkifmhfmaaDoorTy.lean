/-
  What loads, indexing, fields and lengths yield, type by type. Written by program (typack.py).
-/
import Derived.Test.YtokhmkkifmhfmaaDoorSig
import Derived.Test.YtokhmkkifmhfmaaDoorAmT
namespace Go.Proofs.YtokhmkkifmhfmaaDoor
open Go Go.Am

theorem sigP : sig.P = Tryd.prog := rfl
theorem ldp1 (H : Heap) (b o : Nat) : loadV Tryd.prog H 1 (.ptr b o) = (hget H b).bind fun k => k[o]? := by rw [load_ptr _ H 1 _ ty1 b o]; rfl
theorem lde1 (H : Heap) (l : List AV) (o : Nat) : loadV Tryd.prog H 1 (.ele l o) = l[o]? := by rw [load_ele _ H 1 _ ty1 l o]; rfl
theorem zr1 : (tyOf Tryd.prog 1).bind (fun ty => ty.zero) = some [.nilFunc] := by rw [ty1]; rfl
theorem ldp2 (H : Heap) (b o : Nat) : loadV Tryd.prog H 2 (.ptr b o) = (hget H b).bind fun k => k[o]? := by rw [load_ptr _ H 2 _ ty2 b o]; rfl
theorem lde2 (H : Heap) (l : List AV) (o : Nat) : loadV Tryd.prog H 2 (.ele l o) = l[o]? := by rw [load_ele _ H 2 _ ty2 l o]; rfl
theorem zr2 : (tyOf Tryd.prog 2).bind (fun ty => ty.zero) = some [.int .i64 0] := by rw [ty2]; rfl
theorem ldp3 (H : Heap) (b o : Nat) : loadV Tryd.prog H 3 (.ptr b o) = (hget H b).bind fun k => k[o]? := by rw [load_ptr _ H 3 _ ty3 b o]; rfl
theorem lde3 (H : Heap) (l : List AV) (o : Nat) : loadV Tryd.prog H 3 (.ele l o) = l[o]? := by rw [load_ele _ H 3 _ ty3 l o]; rfl
theorem zr3 : (tyOf Tryd.prog 3).bind (fun ty => ty.zero) = some [.int .i64 0] := by rw [ty3]; rfl
theorem ldp4 (H : Heap) (b o : Nat) : loadV Tryd.prog H 4 (.ptr b o) = (hget H b).bind fun k => k[o]? := by rw [load_ptr _ H 4 _ ty4 b o]; rfl
theorem lde4 (H : Heap) (l : List AV) (o : Nat) : loadV Tryd.prog H 4 (.ele l o) = l[o]? := by rw [load_ele _ H 4 _ ty4 l o]; rfl
theorem zr4 : (tyOf Tryd.prog 4).bind (fun ty => ty.zero) = some [.bool false] := by rw [ty4]; rfl
theorem beq4 (a b : Bool) : binV Tryd.prog .eql 4 (.v (.bool a)) (.v (.bool b)) = some (.v (.bool (a == b))) := by simp only [binV, tk4]
theorem bne4 (a b : Bool) : binV Tryd.prog .neq 4 (.v (.bool a)) (.v (.bool b)) = some (.v (.bool (!(a == b)))) := by simp only [binV, tk4]
theorem ldp5 (H : Heap) (b o : Nat) : loadV Tryd.prog H 5 (.ptr b o) = (hget H b).bind fun k => k[o]? := by rw [load_ptr _ H 5 _ ty5 b o]; rfl
theorem lde5 (H : Heap) (l : List AV) (o : Nat) : loadV Tryd.prog H 5 (.ele l o) = l[o]? := by rw [load_ele _ H 5 _ ty5 l o]; rfl
theorem zr5 : (tyOf Tryd.prog 5).bind (fun ty => ty.zero) = some [.int .u8 0] := by rw [ty5]; rfl
theorem ldp9 (H : Heap) (b o : Nat) : loadV Tryd.prog H 9 (.ptr b o) = (hget H b).bind fun k => k[o]? := by rw [load_ptr _ H 9 _ ty9 b o]; rfl
theorem lde9 (H : Heap) (l : List AV) (o : Nat) : loadV Tryd.prog H 9 (.ele l o) = l[o]? := by rw [load_ele _ H 9 _ ty9 l o]; rfl
theorem zr9 : (tyOf Tryd.prog 9).bind (fun ty => ty.zero) = some [.string ⟨#[]⟩] := by rw [ty9]; rfl
theorem lnt9 (s : ByteArray) : lenV (tyOf Tryd.prog 9) (.v (.string s)) = some (.v (.int .i64 s.size)) := by rw [ty9]; exact len_str _ _ rfl
theorem ldp22 (H : Heap) (b o : Nat) : loadV Tryd.prog H 22 (.ptr b o) = (hget H b).bind fun k => k[o]? := by rw [load_ptr _ H 22 _ ty22 b o]; rfl
theorem lde22 (H : Heap) (l : List AV) (o : Nat) : loadV Tryd.prog H 22 (.ele l o) = l[o]? := by rw [load_ele _ H 22 _ ty22 l o]; rfl
theorem zr22 : (tyOf Tryd.prog 22).bind (fun ty => ty.zero) = some [.int .u64 0] := by rw [ty22]; rfl
theorem ldp24 (H : Heap) (b o : Nat) : loadV Tryd.prog H 24 (.ptr b o) = (hget H b).bind fun k => partL { size := 2, bytes := 16, agg := true, k := .struct [(0, 2), (1, 22)], zero := some [.int .i64 0, .int .u64 0] } k o := load_ptr _ H 24 _ ty24 b o
theorem lde24 (H : Heap) (l : List AV) (o : Nat) : loadV Tryd.prog H 24 (.ele l o) = partL { size := 2, bytes := 16, agg := true, k := .struct [(0, 2), (1, 22)], zero := some [.int .i64 0, .int .u64 0] } l o := load_ele _ H 24 _ ty24 l o
theorem pl24 (l : List AV) (o : Nat) (h : o + 2 ≤ l.length) : partL { size := 2, bytes := 16, agg := true, k := .struct [(0, 2), (1, 22)], zero := some [.int .i64 0, .int .u64 0] } l o = some (.agg ((l.drop o).take 2)) := by rw [partL_agg _ _ _ rfl, if_pos h]
theorem zr24 : (tyOf Tryd.prog 24).bind (fun ty => ty.zero) = some [.int .i64 0, .int .u64 0] := by rw [ty24]; rfl
theorem fap24_0 (b o : Nat) : fieldAddrV Tryd.prog 24 (.ptr b o) 0 = some (.ptr b (o)) := fa_ptr _ 24 _ tk24 b o 0 0 2 _ rfl ty2 (by decide)
theorem fae24_0 (l : List AV) (o : Nat) : fieldAddrV Tryd.prog 24 (.ele l o) 0 = some (.ele l (o)) := fa_ele _ 24 _ tk24 l o 0 0 2 _ rfl ty2 (by decide)
theorem fd24_0 (l : List AV) : fieldV Tryd.prog 24 (.agg l) 0 = l[0]? := by rw [fd_agg _ 24 _ tk24 l 0 0 2 _ rfl ty2]; rfl
theorem fap24_1 (b o : Nat) : fieldAddrV Tryd.prog 24 (.ptr b o) 1 = some (.ptr b (o + 1)) := fa_ptr _ 24 _ tk24 b o 1 1 22 _ rfl ty22 (by decide)
theorem fae24_1 (l : List AV) (o : Nat) : fieldAddrV Tryd.prog 24 (.ele l o) 1 = some (.ele l (o + 1)) := fa_ele _ 24 _ tk24 l o 1 1 22 _ rfl ty22 (by decide)
theorem fd24_1 (l : List AV) : fieldV Tryd.prog 24 (.agg l) 1 = l[1]? := by rw [fd_agg _ 24 _ tk24 l 1 1 22 _ rfl ty22]; rfl
theorem ldp42 (H : Heap) (b o : Nat) : loadV Tryd.prog H 42 (.ptr b o) = (hget H b).bind fun k => partL { size := 2, bytes := 16, agg := true, k := .array 2 2, zero := some [.int .i64 0, .int .i64 0] } k o := load_ptr _ H 42 _ ty42 b o
theorem lde42 (H : Heap) (l : List AV) (o : Nat) : loadV Tryd.prog H 42 (.ele l o) = partL { size := 2, bytes := 16, agg := true, k := .array 2 2, zero := some [.int .i64 0, .int .i64 0] } l o := load_ele _ H 42 _ ty42 l o
theorem pl42 (l : List AV) (o : Nat) (h : o + 2 ≤ l.length) : partL { size := 2, bytes := 16, agg := true, k := .array 2 2, zero := some [.int .i64 0, .int .i64 0] } l o = some (.agg ((l.drop o).take 2)) := by rw [partL_agg _ _ _ rfl, if_pos h]
theorem zr42 : (tyOf Tryd.prog 42).bind (fun ty => ty.zero) = some [.int .i64 0, .int .i64 0] := by rw [ty42]; rfl
theorem ldp45 (H : Heap) (b o : Nat) : loadV Tryd.prog H 45 (.ptr b o) = (hget H b).bind fun k => k[o]? := by rw [load_ptr _ H 45 _ ty45 b o]; rfl
theorem lde45 (H : Heap) (l : List AV) (o : Nat) : loadV Tryd.prog H 45 (.ele l o) = l[o]? := by rw [load_ele _ H 45 _ ty45 l o]; rfl
theorem zr45 : (tyOf Tryd.prog 45).bind (fun ty => ty.zero) = some [.int .i64 0] := by rw [ty45]; rfl
theorem ldp57 (H : Heap) (b o : Nat) : loadV Tryd.prog H 57 (.ptr b o) = (hget H b).bind fun k => partL { size := 4, bytes := 32, agg := true, k := .array 4 22, zero := some [.int .u64 0, .int .u64 0, .int .u64 0, .int .u64 0] } k o := load_ptr _ H 57 _ ty57 b o
theorem lde57 (H : Heap) (l : List AV) (o : Nat) : loadV Tryd.prog H 57 (.ele l o) = partL { size := 4, bytes := 32, agg := true, k := .array 4 22, zero := some [.int .u64 0, .int .u64 0, .int .u64 0, .int .u64 0] } l o := load_ele _ H 57 _ ty57 l o
theorem pl57 (l : List AV) (o : Nat) (h : o + 4 ≤ l.length) : partL { size := 4, bytes := 32, agg := true, k := .array 4 22, zero := some [.int .u64 0, .int .u64 0, .int .u64 0, .int .u64 0] } l o = some (.agg ((l.drop o).take 4)) := by rw [partL_agg _ _ _ rfl, if_pos h]
theorem zr57 : (tyOf Tryd.prog 57).bind (fun ty => ty.zero) = some [.int .u64 0, .int .u64 0, .int .u64 0, .int .u64 0] := by rw [ty57]; rfl
theorem ldp59 (H : Heap) (b o : Nat) : loadV Tryd.prog H 59 (.ptr b o) = (hget H b).bind fun k => k[o]? := by rw [load_ptr _ H 59 _ ty59 b o]; rfl
theorem lde59 (H : Heap) (l : List AV) (o : Nat) : loadV Tryd.prog H 59 (.ele l o) = l[o]? := by rw [load_ele _ H 59 _ ty59 l o]; rfl
theorem zr59 : (tyOf Tryd.prog 59).bind (fun ty => ty.zero) = some [.int .u64 0] := by rw [ty59]; rfl
theorem ldp71 (H : Heap) (b o : Nat) : loadV Tryd.prog H 71 (.ptr b o) = (hget H b).bind fun k => k[o]? := by rw [load_ptr _ H 71 _ ty71 b o]; rfl
theorem lde71 (H : Heap) (l : List AV) (o : Nat) : loadV Tryd.prog H 71 (.ele l o) = l[o]? := by rw [load_ele _ H 71 _ ty71 l o]; rfl
theorem zr71 : (tyOf Tryd.prog 71).bind (fun ty => ty.zero) = some [.slice none 0 0] := by rw [ty71]; rfl
theorem ias71 (n : Nat) (l : List AV) (k : IntKind) (i : Int) (h0 : 0 ≤ i) (h1 : i < n) : indexAddrV Tryd.prog 71 (.sl n l) (.v (.int k i)) = some (.ele l (i.toNat)) := by rw [ia_sl _ 71 5 _ tk71 ty5, if_pos ⟨h0, h1⟩]; rw [Nat.mul_one]
theorem iao71 (z b o n : Nat) (k : IntKind) (i : Int) (h0 : 0 ≤ i) (h1 : i < n) : indexAddrV Tryd.prog 71 (.own z b o n) (.v (.int k i)) = some (.ptr b (o + i.toNat)) := by rw [ia_own _ 71 5 _ tk71 ty5, if_pos ⟨h0, h1⟩]; rw [Nat.mul_one]
theorem lns71 (n : Nat) (l : List AV) : lenV (tyOf Tryd.prog 71) (.sl n l) = some (.v (.int .i64 n)) := by rw [ty71]; exact len_sl _ 5 _ _ rfl
theorem lno71 (z b o n : Nat) : lenV (tyOf Tryd.prog 71) (.own z b o n) = some (.v (.int .i64 n)) := by rw [ty71]; exact len_own _ 5 _ _ _ _ rfl
theorem lnn71 (n : Nat) : lenV (tyOf Tryd.prog 71) (.v (.slice none n 0)) = some (.v (.int .i64 n)) := by rw [ty71]; exact len_nil _ 5 _ rfl
theorem ldp73 (H : Heap) (b o : Nat) : loadV Tryd.prog H 73 (.ptr b o) = (hget H b).bind fun k => k[o]? := by rw [load_ptr _ H 73 _ ty73 b o]; rfl
theorem lde73 (H : Heap) (l : List AV) (o : Nat) : loadV Tryd.prog H 73 (.ele l o) = l[o]? := by rw [load_ele _ H 73 _ ty73 l o]; rfl
theorem zr73 : (tyOf Tryd.prog 73).bind (fun ty => ty.zero) = some [.nilIface] := by rw [ty73]; rfl
theorem ldp75 (H : Heap) (b o : Nat) : loadV Tryd.prog H 75 (.ptr b o) = (hget H b).bind fun k => partL { size := 8, bytes := 64, agg := true, k := .array 8 22, zero := some [.int .u64 0, .int .u64 0, .int .u64 0, .int .u64 0, .int .u64 0, .int .u64 0, .int .u64 0, .int .u64 0] } k o := load_ptr _ H 75 _ ty75 b o
theorem lde75 (H : Heap) (l : List AV) (o : Nat) : loadV Tryd.prog H 75 (.ele l o) = partL { size := 8, bytes := 64, agg := true, k := .array 8 22, zero := some [.int .u64 0, .int .u64 0, .int .u64 0, .int .u64 0, .int .u64 0, .int .u64 0, .int .u64 0, .int .u64 0] } l o := load_ele _ H 75 _ ty75 l o
theorem pl75 (l : List AV) (o : Nat) (h : o + 8 ≤ l.length) : partL { size := 8, bytes := 64, agg := true, k := .array 8 22, zero := some [.int .u64 0, .int .u64 0, .int .u64 0, .int .u64 0, .int .u64 0, .int .u64 0, .int .u64 0, .int .u64 0] } l o = some (.agg ((l.drop o).take 8)) := by rw [partL_agg _ _ _ rfl, if_pos h]
theorem zr75 : (tyOf Tryd.prog 75).bind (fun ty => ty.zero) = some [.int .u64 0, .int .u64 0, .int .u64 0, .int .u64 0, .int .u64 0, .int .u64 0, .int .u64 0, .int .u64 0] := by rw [ty75]; rfl

attribute [go_sem] sigP ldp1 lde1 zr1 ldp2 lde2 zr2 ldp3 lde3 zr3 ldp4 lde4 zr4 beq4 bne4 ldp5 lde5 zr5 ldp9 lde9
  zr9 lnt9 ldp22 lde22 zr22 ldp24 lde24 pl24 zr24 fap24_0 fae24_0 fd24_0 fap24_1 fae24_1 fd24_1 ldp42 lde42 pl42 zr42 ldp45
  lde45 zr45 ldp57 lde57 pl57 zr57 ldp59 lde59 zr59 ldp71 lde71 zr71 ias71 iao71 lns71 lno71 lnn71 ldp73 lde73 zr73
  ldp75 lde75 pl75 zr75
end Go.Proofs.YtokhmkkifmhfmaaDoor
