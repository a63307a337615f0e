/-
  What loads, indexing, fields and lengths yield, type by type. Written by program (typack.py).
-/
import Derived.Test.YtaoondlakhocnaaSig
import Derived.Test.YtaoondlakhocnaaAmT
namespace Go.Proofs.Ytaoondlakhocnaa
open Go Go.Am

theorem sigP : sig.P = Try.prog := rfl
theorem ldp1 (H : Heap) (b o : Nat) : loadV Try.prog H 1 (.ptr b o) = (hget H b).bind fun k => k[o]? := by rw [load_ptr _ H 1 _ ty1 b o]; rfl
theorem lde1 (H : Heap) (l : List AV) (o : Nat) : loadV Try.prog H 1 (.ele l o) = l[o]? := by rw [load_ele _ H 1 _ ty1 l o]; rfl
theorem zr1 : (tyOf Try.prog 1).bind (fun ty => ty.zero) = some [.nilFunc] := by rw [ty1]; rfl
theorem ldp2 (H : Heap) (b o : Nat) : loadV Try.prog H 2 (.ptr b o) = (hget H b).bind fun k => k[o]? := by rw [load_ptr _ H 2 _ ty2 b o]; rfl
theorem lde2 (H : Heap) (l : List AV) (o : Nat) : loadV Try.prog H 2 (.ele l o) = l[o]? := by rw [load_ele _ H 2 _ ty2 l o]; rfl
theorem zr2 : (tyOf Try.prog 2).bind (fun ty => ty.zero) = some [.int .i64 0] := by rw [ty2]; rfl
theorem ldp3 (H : Heap) (b o : Nat) : loadV Try.prog H 3 (.ptr b o) = (hget H b).bind fun k => k[o]? := by rw [load_ptr _ H 3 _ ty3 b o]; rfl
theorem lde3 (H : Heap) (l : List AV) (o : Nat) : loadV Try.prog H 3 (.ele l o) = l[o]? := by rw [load_ele _ H 3 _ ty3 l o]; rfl
theorem zr3 : (tyOf Try.prog 3).bind (fun ty => ty.zero) = some [.int .i64 0] := by rw [ty3]; rfl
theorem ldp4 (H : Heap) (b o : Nat) : loadV Try.prog H 4 (.ptr b o) = (hget H b).bind fun k => k[o]? := by rw [load_ptr _ H 4 _ ty4 b o]; rfl
theorem lde4 (H : Heap) (l : List AV) (o : Nat) : loadV Try.prog H 4 (.ele l o) = l[o]? := by rw [load_ele _ H 4 _ ty4 l o]; rfl
theorem zr4 : (tyOf Try.prog 4).bind (fun ty => ty.zero) = some [.bool false] := by rw [ty4]; rfl
theorem beq4 (a b : Bool) : binV Try.prog .eql 4 (.v (.bool a)) (.v (.bool b)) = some (.v (.bool (a == b))) := by simp only [binV, tk4]
theorem bne4 (a b : Bool) : binV Try.prog .neq 4 (.v (.bool a)) (.v (.bool b)) = some (.v (.bool (!(a == b)))) := by simp only [binV, tk4]
theorem ldp5 (H : Heap) (b o : Nat) : loadV Try.prog H 5 (.ptr b o) = (hget H b).bind fun k => k[o]? := by rw [load_ptr _ H 5 _ ty5 b o]; rfl
theorem lde5 (H : Heap) (l : List AV) (o : Nat) : loadV Try.prog H 5 (.ele l o) = l[o]? := by rw [load_ele _ H 5 _ ty5 l o]; rfl
theorem zr5 : (tyOf Try.prog 5).bind (fun ty => ty.zero) = some [.int .u8 0] := by rw [ty5]; rfl
theorem ldp6 (H : Heap) (b o : Nat) : loadV Try.prog H 6 (.ptr b o) = (hget H b).bind fun k => k[o]? := by rw [load_ptr _ H 6 _ ty6 b o]; rfl
theorem lde6 (H : Heap) (l : List AV) (o : Nat) : loadV Try.prog H 6 (.ele l o) = l[o]? := by rw [load_ele _ H 6 _ ty6 l o]; rfl
theorem zr6 : (tyOf Try.prog 6).bind (fun ty => ty.zero) = some [.int .u8 0] := by rw [ty6]; rfl
theorem ldp22 (H : Heap) (b o : Nat) : loadV Try.prog H 22 (.ptr b o) = (hget H b).bind fun k => k[o]? := by rw [load_ptr _ H 22 _ ty22 b o]; rfl
theorem lde22 (H : Heap) (l : List AV) (o : Nat) : loadV Try.prog H 22 (.ele l o) = l[o]? := by rw [load_ele _ H 22 _ ty22 l o]; rfl
theorem zr22 : (tyOf Try.prog 22).bind (fun ty => ty.zero) = some [.slice none 0 0] := by rw [ty22]; rfl
theorem ias22 (n : Nat) (l : List AV) (k : IntKind) (i : Int) (h0 : 0 ≤ i) (h1 : i < n) : indexAddrV Try.prog 22 (.sl n l) (.v (.int k i)) = some (.ele l (i.toNat)) := by rw [ia_sl _ 22 28 _ tk22 ty28, if_pos ⟨h0, h1⟩]; rw [Nat.mul_one]
theorem iao22 (z b o n : Nat) (k : IntKind) (i : Int) (h0 : 0 ≤ i) (h1 : i < n) : indexAddrV Try.prog 22 (.own z b o n) (.v (.int k i)) = some (.ptr b (o + i.toNat)) := by rw [ia_own _ 22 28 _ tk22 ty28, if_pos ⟨h0, h1⟩]; rw [Nat.mul_one]
theorem lns22 (n : Nat) (l : List AV) : lenV (tyOf Try.prog 22) (.sl n l) = some (.v (.int .i64 n)) := by rw [ty22]; exact len_sl _ 28 _ _ rfl
theorem lno22 (z b o n : Nat) : lenV (tyOf Try.prog 22) (.own z b o n) = some (.v (.int .i64 n)) := by rw [ty22]; exact len_own _ 28 _ _ _ _ rfl
theorem lnn22 (n : Nat) : lenV (tyOf Try.prog 22) (.v (.slice none n 0)) = some (.v (.int .i64 n)) := by rw [ty22]; exact len_nil _ 28 _ rfl
theorem ldp24 (H : Heap) (b o : Nat) : loadV Try.prog H 24 (.ptr b o) = (hget H b).bind fun k => partL { size := 1, bytes := 24, agg := true, k := .struct [(0, 22)], zero := some [.slice none 0 0] } k o := load_ptr _ H 24 _ ty24 b o
theorem lde24 (H : Heap) (l : List AV) (o : Nat) : loadV Try.prog H 24 (.ele l o) = partL { size := 1, bytes := 24, agg := true, k := .struct [(0, 22)], zero := some [.slice none 0 0] } l o := load_ele _ H 24 _ ty24 l o
theorem pl24 (l : List AV) (o : Nat) (h : o + 1 ≤ l.length) : partL { size := 1, bytes := 24, agg := true, k := .struct [(0, 22)], zero := some [.slice none 0 0] } l o = some (.agg ((l.drop o).take 1)) := by rw [partL_agg _ _ _ rfl, if_pos h]
theorem zr24 : (tyOf Try.prog 24).bind (fun ty => ty.zero) = some [.slice none 0 0] := by rw [ty24]; rfl
theorem fap24_0 (b o : Nat) : fieldAddrV Try.prog 24 (.ptr b o) 0 = some (.ptr b (o)) := fa_ptr _ 24 _ tk24 b o 0 0 22 _ rfl ty22 (by decide)
theorem fae24_0 (l : List AV) (o : Nat) : fieldAddrV Try.prog 24 (.ele l o) 0 = some (.ele l (o)) := fa_ele _ 24 _ tk24 l o 0 0 22 _ rfl ty22 (by decide)
theorem fd24_0 (l : List AV) : fieldV Try.prog 24 (.agg l) 0 = l[0]? := by rw [fd_agg _ 24 _ tk24 l 0 0 22 _ rfl ty22]; rfl
theorem ldp25 (H : Heap) (b o : Nat) : loadV Try.prog H 25 (.ptr b o) = (hget H b).bind fun k => k[o]? := by rw [load_ptr _ H 25 _ ty25 b o]; rfl
theorem lde25 (H : Heap) (l : List AV) (o : Nat) : loadV Try.prog H 25 (.ele l o) = l[o]? := by rw [load_ele _ H 25 _ ty25 l o]; rfl
theorem zr25 : (tyOf Try.prog 25).bind (fun ty => ty.zero) = some [.slice none 0 0] := by rw [ty25]; rfl
theorem ias25 (n : Nat) (l : List AV) (k : IntKind) (i : Int) (h0 : 0 ≤ i) (h1 : i < n) : indexAddrV Try.prog 25 (.sl n l) (.v (.int k i)) = some (.ele l (i.toNat * 3)) := by rw [ia_sl _ 25 56 _ tk25 ty56, if_pos ⟨h0, h1⟩]
theorem iao25 (z b o n : Nat) (k : IntKind) (i : Int) (h0 : 0 ≤ i) (h1 : i < n) : indexAddrV Try.prog 25 (.own z b o n) (.v (.int k i)) = some (.ptr b (o + i.toNat * 3)) := by rw [ia_own _ 25 56 _ tk25 ty56, if_pos ⟨h0, h1⟩]
theorem lns25 (n : Nat) (l : List AV) : lenV (tyOf Try.prog 25) (.sl n l) = some (.v (.int .i64 n)) := by rw [ty25]; exact len_sl _ 56 _ _ rfl
theorem lno25 (z b o n : Nat) : lenV (tyOf Try.prog 25) (.own z b o n) = some (.v (.int .i64 n)) := by rw [ty25]; exact len_own _ 56 _ _ _ _ rfl
theorem lnn25 (n : Nat) : lenV (tyOf Try.prog 25) (.v (.slice none n 0)) = some (.v (.int .i64 n)) := by rw [ty25]; exact len_nil _ 56 _ rfl
theorem ldp27 (H : Heap) (b o : Nat) : loadV Try.prog H 27 (.ptr b o) = (hget H b).bind fun k => partL { size := 7, bytes := 104, agg := true, k := .struct [(0, 24), (1, 3), (2, 3), (3, 3), (4, 2), (5, 25), (6, 25)], zero := some [.slice none 0 0, .int .i64 0, .int .i64 0, .int .i64 0, .int .i64 0, .slice none 0 0, .slice none 0 0] } k o := load_ptr _ H 27 _ ty27 b o
theorem lde27 (H : Heap) (l : List AV) (o : Nat) : loadV Try.prog H 27 (.ele l o) = partL { size := 7, bytes := 104, agg := true, k := .struct [(0, 24), (1, 3), (2, 3), (3, 3), (4, 2), (5, 25), (6, 25)], zero := some [.slice none 0 0, .int .i64 0, .int .i64 0, .int .i64 0, .int .i64 0, .slice none 0 0, .slice none 0 0] } l o := load_ele _ H 27 _ ty27 l o
theorem pl27 (l : List AV) (o : Nat) (h : o + 7 ≤ l.length) : partL { size := 7, bytes := 104, agg := true, k := .struct [(0, 24), (1, 3), (2, 3), (3, 3), (4, 2), (5, 25), (6, 25)], zero := some [.slice none 0 0, .int .i64 0, .int .i64 0, .int .i64 0, .int .i64 0, .slice none 0 0, .slice none 0 0] } l o = some (.agg ((l.drop o).take 7)) := by rw [partL_agg _ _ _ rfl, if_pos h]
theorem zr27 : (tyOf Try.prog 27).bind (fun ty => ty.zero) = some [.slice none 0 0, .int .i64 0, .int .i64 0, .int .i64 0, .int .i64 0, .slice none 0 0, .slice none 0 0] := by rw [ty27]; rfl
theorem fap27_0 (b o : Nat) : fieldAddrV Try.prog 27 (.ptr b o) 0 = some (.ptr b (o)) := fa_ptr _ 27 _ tk27 b o 0 0 24 _ rfl ty24 (by decide)
theorem fae27_0 (l : List AV) (o : Nat) : fieldAddrV Try.prog 27 (.ele l o) 0 = some (.ele l (o)) := fa_ele _ 27 _ tk27 l o 0 0 24 _ rfl ty24 (by decide)
theorem fd27_0 (l : List AV) : fieldV Try.prog 27 (.agg l) 0 = partL { size := 1, bytes := 24, agg := true, k := .struct [(0, 22)], zero := some [.slice none 0 0] } l 0 := fd_agg _ 27 _ tk27 l 0 0 24 _ rfl ty24
theorem fap27_1 (b o : Nat) : fieldAddrV Try.prog 27 (.ptr b o) 1 = some (.ptr b (o + 1)) := fa_ptr _ 27 _ tk27 b o 1 1 3 _ rfl ty3 (by decide)
theorem fae27_1 (l : List AV) (o : Nat) : fieldAddrV Try.prog 27 (.ele l o) 1 = some (.ele l (o + 1)) := fa_ele _ 27 _ tk27 l o 1 1 3 _ rfl ty3 (by decide)
theorem fd27_1 (l : List AV) : fieldV Try.prog 27 (.agg l) 1 = l[1]? := by rw [fd_agg _ 27 _ tk27 l 1 1 3 _ rfl ty3]; rfl
theorem fap27_2 (b o : Nat) : fieldAddrV Try.prog 27 (.ptr b o) 2 = some (.ptr b (o + 2)) := fa_ptr _ 27 _ tk27 b o 2 2 3 _ rfl ty3 (by decide)
theorem fae27_2 (l : List AV) (o : Nat) : fieldAddrV Try.prog 27 (.ele l o) 2 = some (.ele l (o + 2)) := fa_ele _ 27 _ tk27 l o 2 2 3 _ rfl ty3 (by decide)
theorem fd27_2 (l : List AV) : fieldV Try.prog 27 (.agg l) 2 = l[2]? := by rw [fd_agg _ 27 _ tk27 l 2 2 3 _ rfl ty3]; rfl
theorem fap27_3 (b o : Nat) : fieldAddrV Try.prog 27 (.ptr b o) 3 = some (.ptr b (o + 3)) := fa_ptr _ 27 _ tk27 b o 3 3 3 _ rfl ty3 (by decide)
theorem fae27_3 (l : List AV) (o : Nat) : fieldAddrV Try.prog 27 (.ele l o) 3 = some (.ele l (o + 3)) := fa_ele _ 27 _ tk27 l o 3 3 3 _ rfl ty3 (by decide)
theorem fd27_3 (l : List AV) : fieldV Try.prog 27 (.agg l) 3 = l[3]? := by rw [fd_agg _ 27 _ tk27 l 3 3 3 _ rfl ty3]; rfl
theorem fap27_4 (b o : Nat) : fieldAddrV Try.prog 27 (.ptr b o) 4 = some (.ptr b (o + 4)) := fa_ptr _ 27 _ tk27 b o 4 4 2 _ rfl ty2 (by decide)
theorem fae27_4 (l : List AV) (o : Nat) : fieldAddrV Try.prog 27 (.ele l o) 4 = some (.ele l (o + 4)) := fa_ele _ 27 _ tk27 l o 4 4 2 _ rfl ty2 (by decide)
theorem fd27_4 (l : List AV) : fieldV Try.prog 27 (.agg l) 4 = l[4]? := by rw [fd_agg _ 27 _ tk27 l 4 4 2 _ rfl ty2]; rfl
theorem fap27_5 (b o : Nat) : fieldAddrV Try.prog 27 (.ptr b o) 5 = some (.ptr b (o + 5)) := fa_ptr _ 27 _ tk27 b o 5 5 25 _ rfl ty25 (by decide)
theorem fae27_5 (l : List AV) (o : Nat) : fieldAddrV Try.prog 27 (.ele l o) 5 = some (.ele l (o + 5)) := fa_ele _ 27 _ tk27 l o 5 5 25 _ rfl ty25 (by decide)
theorem fd27_5 (l : List AV) : fieldV Try.prog 27 (.agg l) 5 = l[5]? := by rw [fd_agg _ 27 _ tk27 l 5 5 25 _ rfl ty25]; rfl
theorem fap27_6 (b o : Nat) : fieldAddrV Try.prog 27 (.ptr b o) 6 = some (.ptr b (o + 6)) := fa_ptr _ 27 _ tk27 b o 6 6 25 _ rfl ty25 (by decide)
theorem fae27_6 (l : List AV) (o : Nat) : fieldAddrV Try.prog 27 (.ele l o) 6 = some (.ele l (o + 6)) := fa_ele _ 27 _ tk27 l o 6 6 25 _ rfl ty25 (by decide)
theorem fd27_6 (l : List AV) : fieldV Try.prog 27 (.agg l) 6 = l[6]? := by rw [fd_agg _ 27 _ tk27 l 6 6 25 _ rfl ty25]; rfl
theorem ldp28 (H : Heap) (b o : Nat) : loadV Try.prog H 28 (.ptr b o) = (hget H b).bind fun k => k[o]? := by rw [load_ptr _ H 28 _ ty28 b o]; rfl
theorem lde28 (H : Heap) (l : List AV) (o : Nat) : loadV Try.prog H 28 (.ele l o) = l[o]? := by rw [load_ele _ H 28 _ ty28 l o]; rfl
theorem zr28 : (tyOf Try.prog 28).bind (fun ty => ty.zero) = some [.slice none 0 0] := by rw [ty28]; rfl
theorem ias28 (n : Nat) (l : List AV) (k : IntKind) (i : Int) (h0 : 0 ≤ i) (h1 : i < n) : indexAddrV Try.prog 28 (.sl n l) (.v (.int k i)) = some (.ele l (i.toNat)) := by rw [ia_sl _ 28 2 _ tk28 ty2, if_pos ⟨h0, h1⟩]; rw [Nat.mul_one]
theorem iao28 (z b o n : Nat) (k : IntKind) (i : Int) (h0 : 0 ≤ i) (h1 : i < n) : indexAddrV Try.prog 28 (.own z b o n) (.v (.int k i)) = some (.ptr b (o + i.toNat)) := by rw [ia_own _ 28 2 _ tk28 ty2, if_pos ⟨h0, h1⟩]; rw [Nat.mul_one]
theorem lns28 (n : Nat) (l : List AV) : lenV (tyOf Try.prog 28) (.sl n l) = some (.v (.int .i64 n)) := by rw [ty28]; exact len_sl _ 2 _ _ rfl
theorem lno28 (z b o n : Nat) : lenV (tyOf Try.prog 28) (.own z b o n) = some (.v (.int .i64 n)) := by rw [ty28]; exact len_own _ 2 _ _ _ _ rfl
theorem lnn28 (n : Nat) : lenV (tyOf Try.prog 28) (.v (.slice none n 0)) = some (.v (.int .i64 n)) := by rw [ty28]; exact len_nil _ 2 _ rfl
theorem ldp30 (H : Heap) (b o : Nat) : loadV Try.prog H 30 (.ptr b o) = (hget H b).bind fun k => partL { size := 2, bytes := 48, agg := true, k := .struct [(0, 28), (1, 28)], zero := some [.slice none 0 0, .slice none 0 0] } k o := load_ptr _ H 30 _ ty30 b o
theorem lde30 (H : Heap) (l : List AV) (o : Nat) : loadV Try.prog H 30 (.ele l o) = partL { size := 2, bytes := 48, agg := true, k := .struct [(0, 28), (1, 28)], zero := some [.slice none 0 0, .slice none 0 0] } l o := load_ele _ H 30 _ ty30 l o
theorem pl30 (l : List AV) (o : Nat) (h : o + 2 ≤ l.length) : partL { size := 2, bytes := 48, agg := true, k := .struct [(0, 28), (1, 28)], zero := some [.slice none 0 0, .slice none 0 0] } l o = some (.agg ((l.drop o).take 2)) := by rw [partL_agg _ _ _ rfl, if_pos h]
theorem zr30 : (tyOf Try.prog 30).bind (fun ty => ty.zero) = some [.slice none 0 0, .slice none 0 0] := by rw [ty30]; rfl
theorem fap30_0 (b o : Nat) : fieldAddrV Try.prog 30 (.ptr b o) 0 = some (.ptr b (o)) := fa_ptr _ 30 _ tk30 b o 0 0 28 _ rfl ty28 (by decide)
theorem fae30_0 (l : List AV) (o : Nat) : fieldAddrV Try.prog 30 (.ele l o) 0 = some (.ele l (o)) := fa_ele _ 30 _ tk30 l o 0 0 28 _ rfl ty28 (by decide)
theorem fd30_0 (l : List AV) : fieldV Try.prog 30 (.agg l) 0 = l[0]? := by rw [fd_agg _ 30 _ tk30 l 0 0 28 _ rfl ty28]; rfl
theorem fap30_1 (b o : Nat) : fieldAddrV Try.prog 30 (.ptr b o) 1 = some (.ptr b (o + 1)) := fa_ptr _ 30 _ tk30 b o 1 1 28 _ rfl ty28 (by decide)
theorem fae30_1 (l : List AV) (o : Nat) : fieldAddrV Try.prog 30 (.ele l o) 1 = some (.ele l (o + 1)) := fa_ele _ 30 _ tk30 l o 1 1 28 _ rfl ty28 (by decide)
theorem fd30_1 (l : List AV) : fieldV Try.prog 30 (.agg l) 1 = l[1]? := by rw [fd_agg _ 30 _ tk30 l 1 1 28 _ rfl ty28]; rfl
theorem ldp31 (H : Heap) (b o : Nat) : loadV Try.prog H 31 (.ptr b o) = (hget H b).bind fun k => partL { size := 3, bytes := 24, agg := true, k := .array 3 2, zero := some [.int .i64 0, .int .i64 0, .int .i64 0] } k o := load_ptr _ H 31 _ ty31 b o
theorem lde31 (H : Heap) (l : List AV) (o : Nat) : loadV Try.prog H 31 (.ele l o) = partL { size := 3, bytes := 24, agg := true, k := .array 3 2, zero := some [.int .i64 0, .int .i64 0, .int .i64 0] } l o := load_ele _ H 31 _ ty31 l o
theorem pl31 (l : List AV) (o : Nat) (h : o + 3 ≤ l.length) : partL { size := 3, bytes := 24, agg := true, k := .array 3 2, zero := some [.int .i64 0, .int .i64 0, .int .i64 0] } l o = some (.agg ((l.drop o).take 3)) := by rw [partL_agg _ _ _ rfl, if_pos h]
theorem zr31 : (tyOf Try.prog 31).bind (fun ty => ty.zero) = some [.int .i64 0, .int .i64 0, .int .i64 0] := by rw [ty31]; rfl
theorem ldp34 (H : Heap) (b o : Nat) : loadV Try.prog H 34 (.ptr b o) = (hget H b).bind fun k => partL { size := 7, bytes := 104, agg := true, k := .struct [(0, 24), (1, 3), (2, 3), (3, 3), (4, 2), (5, 25), (6, 25)], zero := some [.slice none 0 0, .int .i64 0, .int .i64 0, .int .i64 0, .int .i64 0, .slice none 0 0, .slice none 0 0] } k o := load_ptr _ H 34 _ ty34 b o
theorem lde34 (H : Heap) (l : List AV) (o : Nat) : loadV Try.prog H 34 (.ele l o) = partL { size := 7, bytes := 104, agg := true, k := .struct [(0, 24), (1, 3), (2, 3), (3, 3), (4, 2), (5, 25), (6, 25)], zero := some [.slice none 0 0, .int .i64 0, .int .i64 0, .int .i64 0, .int .i64 0, .slice none 0 0, .slice none 0 0] } l o := load_ele _ H 34 _ ty34 l o
theorem pl34 (l : List AV) (o : Nat) (h : o + 7 ≤ l.length) : partL { size := 7, bytes := 104, agg := true, k := .struct [(0, 24), (1, 3), (2, 3), (3, 3), (4, 2), (5, 25), (6, 25)], zero := some [.slice none 0 0, .int .i64 0, .int .i64 0, .int .i64 0, .int .i64 0, .slice none 0 0, .slice none 0 0] } l o = some (.agg ((l.drop o).take 7)) := by rw [partL_agg _ _ _ rfl, if_pos h]
theorem zr34 : (tyOf Try.prog 34).bind (fun ty => ty.zero) = some [.slice none 0 0, .int .i64 0, .int .i64 0, .int .i64 0, .int .i64 0, .slice none 0 0, .slice none 0 0] := by rw [ty34]; rfl
theorem fap34_0 (b o : Nat) : fieldAddrV Try.prog 34 (.ptr b o) 0 = some (.ptr b (o)) := fa_ptr _ 34 _ tk34 b o 0 0 24 _ rfl ty24 (by decide)
theorem fae34_0 (l : List AV) (o : Nat) : fieldAddrV Try.prog 34 (.ele l o) 0 = some (.ele l (o)) := fa_ele _ 34 _ tk34 l o 0 0 24 _ rfl ty24 (by decide)
theorem fd34_0 (l : List AV) : fieldV Try.prog 34 (.agg l) 0 = partL { size := 1, bytes := 24, agg := true, k := .struct [(0, 22)], zero := some [.slice none 0 0] } l 0 := fd_agg _ 34 _ tk34 l 0 0 24 _ rfl ty24
theorem fap34_1 (b o : Nat) : fieldAddrV Try.prog 34 (.ptr b o) 1 = some (.ptr b (o + 1)) := fa_ptr _ 34 _ tk34 b o 1 1 3 _ rfl ty3 (by decide)
theorem fae34_1 (l : List AV) (o : Nat) : fieldAddrV Try.prog 34 (.ele l o) 1 = some (.ele l (o + 1)) := fa_ele _ 34 _ tk34 l o 1 1 3 _ rfl ty3 (by decide)
theorem fd34_1 (l : List AV) : fieldV Try.prog 34 (.agg l) 1 = l[1]? := by rw [fd_agg _ 34 _ tk34 l 1 1 3 _ rfl ty3]; rfl
theorem fap34_2 (b o : Nat) : fieldAddrV Try.prog 34 (.ptr b o) 2 = some (.ptr b (o + 2)) := fa_ptr _ 34 _ tk34 b o 2 2 3 _ rfl ty3 (by decide)
theorem fae34_2 (l : List AV) (o : Nat) : fieldAddrV Try.prog 34 (.ele l o) 2 = some (.ele l (o + 2)) := fa_ele _ 34 _ tk34 l o 2 2 3 _ rfl ty3 (by decide)
theorem fd34_2 (l : List AV) : fieldV Try.prog 34 (.agg l) 2 = l[2]? := by rw [fd_agg _ 34 _ tk34 l 2 2 3 _ rfl ty3]; rfl
theorem fap34_3 (b o : Nat) : fieldAddrV Try.prog 34 (.ptr b o) 3 = some (.ptr b (o + 3)) := fa_ptr _ 34 _ tk34 b o 3 3 3 _ rfl ty3 (by decide)
theorem fae34_3 (l : List AV) (o : Nat) : fieldAddrV Try.prog 34 (.ele l o) 3 = some (.ele l (o + 3)) := fa_ele _ 34 _ tk34 l o 3 3 3 _ rfl ty3 (by decide)
theorem fd34_3 (l : List AV) : fieldV Try.prog 34 (.agg l) 3 = l[3]? := by rw [fd_agg _ 34 _ tk34 l 3 3 3 _ rfl ty3]; rfl
theorem fap34_4 (b o : Nat) : fieldAddrV Try.prog 34 (.ptr b o) 4 = some (.ptr b (o + 4)) := fa_ptr _ 34 _ tk34 b o 4 4 2 _ rfl ty2 (by decide)
theorem fae34_4 (l : List AV) (o : Nat) : fieldAddrV Try.prog 34 (.ele l o) 4 = some (.ele l (o + 4)) := fa_ele _ 34 _ tk34 l o 4 4 2 _ rfl ty2 (by decide)
theorem fd34_4 (l : List AV) : fieldV Try.prog 34 (.agg l) 4 = l[4]? := by rw [fd_agg _ 34 _ tk34 l 4 4 2 _ rfl ty2]; rfl
theorem fap34_5 (b o : Nat) : fieldAddrV Try.prog 34 (.ptr b o) 5 = some (.ptr b (o + 5)) := fa_ptr _ 34 _ tk34 b o 5 5 25 _ rfl ty25 (by decide)
theorem fae34_5 (l : List AV) (o : Nat) : fieldAddrV Try.prog 34 (.ele l o) 5 = some (.ele l (o + 5)) := fa_ele _ 34 _ tk34 l o 5 5 25 _ rfl ty25 (by decide)
theorem fd34_5 (l : List AV) : fieldV Try.prog 34 (.agg l) 5 = l[5]? := by rw [fd_agg _ 34 _ tk34 l 5 5 25 _ rfl ty25]; rfl
theorem fap34_6 (b o : Nat) : fieldAddrV Try.prog 34 (.ptr b o) 6 = some (.ptr b (o + 6)) := fa_ptr _ 34 _ tk34 b o 6 6 25 _ rfl ty25 (by decide)
theorem fae34_6 (l : List AV) (o : Nat) : fieldAddrV Try.prog 34 (.ele l o) 6 = some (.ele l (o + 6)) := fa_ele _ 34 _ tk34 l o 6 6 25 _ rfl ty25 (by decide)
theorem fd34_6 (l : List AV) : fieldV Try.prog 34 (.agg l) 6 = l[6]? := by rw [fd_agg _ 34 _ tk34 l 6 6 25 _ rfl ty25]; rfl
theorem ldp36 (H : Heap) (b o : Nat) : loadV Try.prog H 36 (.ptr b o) = (hget H b).bind fun k => k[o]? := by rw [load_ptr _ H 36 _ ty36 b o]; rfl
theorem lde36 (H : Heap) (l : List AV) (o : Nat) : loadV Try.prog H 36 (.ele l o) = l[o]? := by rw [load_ele _ H 36 _ ty36 l o]; rfl
theorem zr36 : (tyOf Try.prog 36).bind (fun ty => ty.zero) = some [.int .i64 0] := by rw [ty36]; rfl
theorem ldp43 (H : Heap) (b o : Nat) : loadV Try.prog H 43 (.ptr b o) = (hget H b).bind fun k => k[o]? := by rw [load_ptr _ H 43 _ ty43 b o]; rfl
theorem lde43 (H : Heap) (l : List AV) (o : Nat) : loadV Try.prog H 43 (.ele l o) = l[o]? := by rw [load_ele _ H 43 _ ty43 l o]; rfl
theorem zr43 : (tyOf Try.prog 43).bind (fun ty => ty.zero) = some [.slice none 0 0] := by rw [ty43]; rfl
theorem ias43 (n : Nat) (l : List AV) (k : IntKind) (i : Int) (h0 : 0 ≤ i) (h1 : i < n) : indexAddrV Try.prog 43 (.sl n l) (.v (.int k i)) = some (.ele l (i.toNat * 7)) := by rw [ia_sl _ 43 34 _ tk43 ty34, if_pos ⟨h0, h1⟩]
theorem iao43 (z b o n : Nat) (k : IntKind) (i : Int) (h0 : 0 ≤ i) (h1 : i < n) : indexAddrV Try.prog 43 (.own z b o n) (.v (.int k i)) = some (.ptr b (o + i.toNat * 7)) := by rw [ia_own _ 43 34 _ tk43 ty34, if_pos ⟨h0, h1⟩]
theorem lns43 (n : Nat) (l : List AV) : lenV (tyOf Try.prog 43) (.sl n l) = some (.v (.int .i64 n)) := by rw [ty43]; exact len_sl _ 34 _ _ rfl
theorem lno43 (z b o n : Nat) : lenV (tyOf Try.prog 43) (.own z b o n) = some (.v (.int .i64 n)) := by rw [ty43]; exact len_own _ 34 _ _ _ _ rfl
theorem lnn43 (n : Nat) : lenV (tyOf Try.prog 43) (.v (.slice none n 0)) = some (.v (.int .i64 n)) := by rw [ty43]; exact len_nil _ 34 _ rfl
theorem ldp46 (H : Heap) (b o : Nat) : loadV Try.prog H 46 (.ptr b o) = (hget H b).bind fun k => partL { size := 5, bytes := 40, agg := true, k := .struct [(0, 3), (1, 2), (2, 2), (3, 2), (4, 3)], zero := some [.int .i64 0, .int .i64 0, .int .i64 0, .int .i64 0, .int .i64 0] } k o := load_ptr _ H 46 _ ty46 b o
theorem lde46 (H : Heap) (l : List AV) (o : Nat) : loadV Try.prog H 46 (.ele l o) = partL { size := 5, bytes := 40, agg := true, k := .struct [(0, 3), (1, 2), (2, 2), (3, 2), (4, 3)], zero := some [.int .i64 0, .int .i64 0, .int .i64 0, .int .i64 0, .int .i64 0] } l o := load_ele _ H 46 _ ty46 l o
theorem pl46 (l : List AV) (o : Nat) (h : o + 5 ≤ l.length) : partL { size := 5, bytes := 40, agg := true, k := .struct [(0, 3), (1, 2), (2, 2), (3, 2), (4, 3)], zero := some [.int .i64 0, .int .i64 0, .int .i64 0, .int .i64 0, .int .i64 0] } l o = some (.agg ((l.drop o).take 5)) := by rw [partL_agg _ _ _ rfl, if_pos h]
theorem zr46 : (tyOf Try.prog 46).bind (fun ty => ty.zero) = some [.int .i64 0, .int .i64 0, .int .i64 0, .int .i64 0, .int .i64 0] := by rw [ty46]; rfl
theorem fap46_0 (b o : Nat) : fieldAddrV Try.prog 46 (.ptr b o) 0 = some (.ptr b (o)) := fa_ptr _ 46 _ tk46 b o 0 0 3 _ rfl ty3 (by decide)
theorem fae46_0 (l : List AV) (o : Nat) : fieldAddrV Try.prog 46 (.ele l o) 0 = some (.ele l (o)) := fa_ele _ 46 _ tk46 l o 0 0 3 _ rfl ty3 (by decide)
theorem fd46_0 (l : List AV) : fieldV Try.prog 46 (.agg l) 0 = l[0]? := by rw [fd_agg _ 46 _ tk46 l 0 0 3 _ rfl ty3]; rfl
theorem fap46_1 (b o : Nat) : fieldAddrV Try.prog 46 (.ptr b o) 1 = some (.ptr b (o + 1)) := fa_ptr _ 46 _ tk46 b o 1 1 2 _ rfl ty2 (by decide)
theorem fae46_1 (l : List AV) (o : Nat) : fieldAddrV Try.prog 46 (.ele l o) 1 = some (.ele l (o + 1)) := fa_ele _ 46 _ tk46 l o 1 1 2 _ rfl ty2 (by decide)
theorem fd46_1 (l : List AV) : fieldV Try.prog 46 (.agg l) 1 = l[1]? := by rw [fd_agg _ 46 _ tk46 l 1 1 2 _ rfl ty2]; rfl
theorem fap46_2 (b o : Nat) : fieldAddrV Try.prog 46 (.ptr b o) 2 = some (.ptr b (o + 2)) := fa_ptr _ 46 _ tk46 b o 2 2 2 _ rfl ty2 (by decide)
theorem fae46_2 (l : List AV) (o : Nat) : fieldAddrV Try.prog 46 (.ele l o) 2 = some (.ele l (o + 2)) := fa_ele _ 46 _ tk46 l o 2 2 2 _ rfl ty2 (by decide)
theorem fd46_2 (l : List AV) : fieldV Try.prog 46 (.agg l) 2 = l[2]? := by rw [fd_agg _ 46 _ tk46 l 2 2 2 _ rfl ty2]; rfl
theorem fap46_3 (b o : Nat) : fieldAddrV Try.prog 46 (.ptr b o) 3 = some (.ptr b (o + 3)) := fa_ptr _ 46 _ tk46 b o 3 3 2 _ rfl ty2 (by decide)
theorem fae46_3 (l : List AV) (o : Nat) : fieldAddrV Try.prog 46 (.ele l o) 3 = some (.ele l (o + 3)) := fa_ele _ 46 _ tk46 l o 3 3 2 _ rfl ty2 (by decide)
theorem fd46_3 (l : List AV) : fieldV Try.prog 46 (.agg l) 3 = l[3]? := by rw [fd_agg _ 46 _ tk46 l 3 3 2 _ rfl ty2]; rfl
theorem fap46_4 (b o : Nat) : fieldAddrV Try.prog 46 (.ptr b o) 4 = some (.ptr b (o + 4)) := fa_ptr _ 46 _ tk46 b o 4 4 3 _ rfl ty3 (by decide)
theorem fae46_4 (l : List AV) (o : Nat) : fieldAddrV Try.prog 46 (.ele l o) 4 = some (.ele l (o + 4)) := fa_ele _ 46 _ tk46 l o 4 4 3 _ rfl ty3 (by decide)
theorem fd46_4 (l : List AV) : fieldV Try.prog 46 (.agg l) 4 = l[4]? := by rw [fd_agg _ 46 _ tk46 l 4 4 3 _ rfl ty3]; rfl
theorem ldp50 (H : Heap) (b o : Nat) : loadV Try.prog H 50 (.ptr b o) = (hget H b).bind fun k => k[o]? := by rw [load_ptr _ H 50 _ ty50 b o]; rfl
theorem lde50 (H : Heap) (l : List AV) (o : Nat) : loadV Try.prog H 50 (.ele l o) = l[o]? := by rw [load_ele _ H 50 _ ty50 l o]; rfl
theorem zr50 : (tyOf Try.prog 50).bind (fun ty => ty.zero) = some [.int .u16 0] := by rw [ty50]; rfl
theorem ldp51 (H : Heap) (b o : Nat) : loadV Try.prog H 51 (.ptr b o) = (hget H b).bind fun k => partL { size := 3, bytes := 6, agg := true, k := .array 3 50, zero := some [.int .u16 0, .int .u16 0, .int .u16 0] } k o := load_ptr _ H 51 _ ty51 b o
theorem lde51 (H : Heap) (l : List AV) (o : Nat) : loadV Try.prog H 51 (.ele l o) = partL { size := 3, bytes := 6, agg := true, k := .array 3 50, zero := some [.int .u16 0, .int .u16 0, .int .u16 0] } l o := load_ele _ H 51 _ ty51 l o
theorem pl51 (l : List AV) (o : Nat) (h : o + 3 ≤ l.length) : partL { size := 3, bytes := 6, agg := true, k := .array 3 50, zero := some [.int .u16 0, .int .u16 0, .int .u16 0] } l o = some (.agg ((l.drop o).take 3)) := by rw [partL_agg _ _ _ rfl, if_pos h]
theorem zr51 : (tyOf Try.prog 51).bind (fun ty => ty.zero) = some [.int .u16 0, .int .u16 0, .int .u16 0] := by rw [ty51]; rfl
theorem ldp53 (H : Heap) (b o : Nat) : loadV Try.prog H 53 (.ptr b o) = (hget H b).bind fun k => partL { size := 2, bytes := 16, agg := true, k := .array 2 2, zero := some [.int .i64 0, .int .i64 0] } k o := load_ptr _ H 53 _ ty53 b o
theorem lde53 (H : Heap) (l : List AV) (o : Nat) : loadV Try.prog H 53 (.ele l o) = partL { size := 2, bytes := 16, agg := true, k := .array 2 2, zero := some [.int .i64 0, .int .i64 0] } l o := load_ele _ H 53 _ ty53 l o
theorem pl53 (l : List AV) (o : Nat) (h : o + 2 ≤ l.length) : partL { size := 2, bytes := 16, agg := true, k := .array 2 2, zero := some [.int .i64 0, .int .i64 0] } l o = some (.agg ((l.drop o).take 2)) := by rw [partL_agg _ _ _ rfl, if_pos h]
theorem zr53 : (tyOf Try.prog 53).bind (fun ty => ty.zero) = some [.int .i64 0, .int .i64 0] := by rw [ty53]; rfl
theorem ldp56 (H : Heap) (b o : Nat) : loadV Try.prog H 56 (.ptr b o) = (hget H b).bind fun k => partL { size := 3, bytes := 24, agg := true, k := .struct [(0, 2), (1, 2), (2, 3)], zero := some [.int .i64 0, .int .i64 0, .int .i64 0] } k o := load_ptr _ H 56 _ ty56 b o
theorem lde56 (H : Heap) (l : List AV) (o : Nat) : loadV Try.prog H 56 (.ele l o) = partL { size := 3, bytes := 24, agg := true, k := .struct [(0, 2), (1, 2), (2, 3)], zero := some [.int .i64 0, .int .i64 0, .int .i64 0] } l o := load_ele _ H 56 _ ty56 l o
theorem pl56 (l : List AV) (o : Nat) (h : o + 3 ≤ l.length) : partL { size := 3, bytes := 24, agg := true, k := .struct [(0, 2), (1, 2), (2, 3)], zero := some [.int .i64 0, .int .i64 0, .int .i64 0] } l o = some (.agg ((l.drop o).take 3)) := by rw [partL_agg _ _ _ rfl, if_pos h]
theorem zr56 : (tyOf Try.prog 56).bind (fun ty => ty.zero) = some [.int .i64 0, .int .i64 0, .int .i64 0] := by rw [ty56]; rfl
theorem fap56_0 (b o : Nat) : fieldAddrV Try.prog 56 (.ptr b o) 0 = some (.ptr b (o)) := fa_ptr _ 56 _ tk56 b o 0 0 2 _ rfl ty2 (by decide)
theorem fae56_0 (l : List AV) (o : Nat) : fieldAddrV Try.prog 56 (.ele l o) 0 = some (.ele l (o)) := fa_ele _ 56 _ tk56 l o 0 0 2 _ rfl ty2 (by decide)
theorem fd56_0 (l : List AV) : fieldV Try.prog 56 (.agg l) 0 = l[0]? := by rw [fd_agg _ 56 _ tk56 l 0 0 2 _ rfl ty2]; rfl
theorem fap56_1 (b o : Nat) : fieldAddrV Try.prog 56 (.ptr b o) 1 = some (.ptr b (o + 1)) := fa_ptr _ 56 _ tk56 b o 1 1 2 _ rfl ty2 (by decide)
theorem fae56_1 (l : List AV) (o : Nat) : fieldAddrV Try.prog 56 (.ele l o) 1 = some (.ele l (o + 1)) := fa_ele _ 56 _ tk56 l o 1 1 2 _ rfl ty2 (by decide)
theorem fd56_1 (l : List AV) : fieldV Try.prog 56 (.agg l) 1 = l[1]? := by rw [fd_agg _ 56 _ tk56 l 1 1 2 _ rfl ty2]; rfl
theorem fap56_2 (b o : Nat) : fieldAddrV Try.prog 56 (.ptr b o) 2 = some (.ptr b (o + 2)) := fa_ptr _ 56 _ tk56 b o 2 2 3 _ rfl ty3 (by decide)
theorem fae56_2 (l : List AV) (o : Nat) : fieldAddrV Try.prog 56 (.ele l o) 2 = some (.ele l (o + 2)) := fa_ele _ 56 _ tk56 l o 2 2 3 _ rfl ty3 (by decide)
theorem fd56_2 (l : List AV) : fieldV Try.prog 56 (.agg l) 2 = l[2]? := by rw [fd_agg _ 56 _ tk56 l 2 2 3 _ rfl ty3]; rfl
theorem ldp58 (H : Heap) (b o : Nat) : loadV Try.prog H 58 (.ptr b o) = (hget H b).bind fun k => partL { size := 2, bytes := 16, agg := true, k := .array 2 3, zero := some [.int .i64 0, .int .i64 0] } k o := load_ptr _ H 58 _ ty58 b o
theorem lde58 (H : Heap) (l : List AV) (o : Nat) : loadV Try.prog H 58 (.ele l o) = partL { size := 2, bytes := 16, agg := true, k := .array 2 3, zero := some [.int .i64 0, .int .i64 0] } l o := load_ele _ H 58 _ ty58 l o
theorem pl58 (l : List AV) (o : Nat) (h : o + 2 ≤ l.length) : partL { size := 2, bytes := 16, agg := true, k := .array 2 3, zero := some [.int .i64 0, .int .i64 0] } l o = some (.agg ((l.drop o).take 2)) := by rw [partL_agg _ _ _ rfl, if_pos h]
theorem zr58 : (tyOf Try.prog 58).bind (fun ty => ty.zero) = some [.int .i64 0, .int .i64 0] := by rw [ty58]; rfl
theorem ldp64 (H : Heap) (b o : Nat) : loadV Try.prog H 64 (.ptr b o) = (hget H b).bind fun k => partL { size := 4, bytes := 64, agg := true, k := .struct [(0, 24), (1, 3), (2, 2), (3, 25)], zero := some [.slice none 0 0, .int .i64 0, .int .i64 0, .slice none 0 0] } k o := load_ptr _ H 64 _ ty64 b o
theorem lde64 (H : Heap) (l : List AV) (o : Nat) : loadV Try.prog H 64 (.ele l o) = partL { size := 4, bytes := 64, agg := true, k := .struct [(0, 24), (1, 3), (2, 2), (3, 25)], zero := some [.slice none 0 0, .int .i64 0, .int .i64 0, .slice none 0 0] } l o := load_ele _ H 64 _ ty64 l o
theorem pl64 (l : List AV) (o : Nat) (h : o + 4 ≤ l.length) : partL { size := 4, bytes := 64, agg := true, k := .struct [(0, 24), (1, 3), (2, 2), (3, 25)], zero := some [.slice none 0 0, .int .i64 0, .int .i64 0, .slice none 0 0] } l o = some (.agg ((l.drop o).take 4)) := by rw [partL_agg _ _ _ rfl, if_pos h]
theorem zr64 : (tyOf Try.prog 64).bind (fun ty => ty.zero) = some [.slice none 0 0, .int .i64 0, .int .i64 0, .slice none 0 0] := by rw [ty64]; rfl
theorem fap64_0 (b o : Nat) : fieldAddrV Try.prog 64 (.ptr b o) 0 = some (.ptr b (o)) := fa_ptr _ 64 _ tk64 b o 0 0 24 _ rfl ty24 (by decide)
theorem fae64_0 (l : List AV) (o : Nat) : fieldAddrV Try.prog 64 (.ele l o) 0 = some (.ele l (o)) := fa_ele _ 64 _ tk64 l o 0 0 24 _ rfl ty24 (by decide)
theorem fd64_0 (l : List AV) : fieldV Try.prog 64 (.agg l) 0 = partL { size := 1, bytes := 24, agg := true, k := .struct [(0, 22)], zero := some [.slice none 0 0] } l 0 := fd_agg _ 64 _ tk64 l 0 0 24 _ rfl ty24
theorem fap64_1 (b o : Nat) : fieldAddrV Try.prog 64 (.ptr b o) 1 = some (.ptr b (o + 1)) := fa_ptr _ 64 _ tk64 b o 1 1 3 _ rfl ty3 (by decide)
theorem fae64_1 (l : List AV) (o : Nat) : fieldAddrV Try.prog 64 (.ele l o) 1 = some (.ele l (o + 1)) := fa_ele _ 64 _ tk64 l o 1 1 3 _ rfl ty3 (by decide)
theorem fd64_1 (l : List AV) : fieldV Try.prog 64 (.agg l) 1 = l[1]? := by rw [fd_agg _ 64 _ tk64 l 1 1 3 _ rfl ty3]; rfl
theorem fap64_2 (b o : Nat) : fieldAddrV Try.prog 64 (.ptr b o) 2 = some (.ptr b (o + 2)) := fa_ptr _ 64 _ tk64 b o 2 2 2 _ rfl ty2 (by decide)
theorem fae64_2 (l : List AV) (o : Nat) : fieldAddrV Try.prog 64 (.ele l o) 2 = some (.ele l (o + 2)) := fa_ele _ 64 _ tk64 l o 2 2 2 _ rfl ty2 (by decide)
theorem fd64_2 (l : List AV) : fieldV Try.prog 64 (.agg l) 2 = l[2]? := by rw [fd_agg _ 64 _ tk64 l 2 2 2 _ rfl ty2]; rfl
theorem fap64_3 (b o : Nat) : fieldAddrV Try.prog 64 (.ptr b o) 3 = some (.ptr b (o + 3)) := fa_ptr _ 64 _ tk64 b o 3 3 25 _ rfl ty25 (by decide)
theorem fae64_3 (l : List AV) (o : Nat) : fieldAddrV Try.prog 64 (.ele l o) 3 = some (.ele l (o + 3)) := fa_ele _ 64 _ tk64 l o 3 3 25 _ rfl ty25 (by decide)
theorem fd64_3 (l : List AV) : fieldV Try.prog 64 (.agg l) 3 = l[3]? := by rw [fd_agg _ 64 _ tk64 l 3 3 25 _ rfl ty25]; rfl

attribute [go_sem] sigP ldp1 lde1 zr1 ldp2 lde2 zr2 ldp3 lde3 zr3 ldp4 lde4 zr4 beq4 bne4 ldp5 lde5 zr5 ldp6 lde6
  zr6 ldp22 lde22 zr22 ias22 iao22 lns22 lno22 lnn22 ldp24 lde24 pl24 zr24 fap24_0 fae24_0 fd24_0 ldp25 lde25 zr25 ias25
  iao25 lns25 lno25 lnn25 ldp27 lde27 pl27 zr27 fap27_0 fae27_0 fd27_0 fap27_1 fae27_1 fd27_1 fap27_2 fae27_2 fd27_2 fap27_3 fae27_3 fd27_3
  fap27_4 fae27_4 fd27_4 fap27_5 fae27_5 fd27_5 fap27_6 fae27_6 fd27_6 ldp28 lde28 zr28 ias28 iao28 lns28 lno28 lnn28 ldp30 lde30 pl30
  zr30 fap30_0 fae30_0 fd30_0 fap30_1 fae30_1 fd30_1 ldp31 lde31 pl31 zr31 ldp34 lde34 pl34 zr34 fap34_0 fae34_0 fd34_0 fap34_1 fae34_1
  fd34_1 fap34_2 fae34_2 fd34_2 fap34_3 fae34_3 fd34_3 fap34_4 fae34_4 fd34_4 fap34_5 fae34_5 fd34_5 fap34_6 fae34_6 fd34_6 ldp36 lde36 zr36 ldp43
  lde43 zr43 ias43 iao43 lns43 lno43 lnn43 ldp46 lde46 pl46 zr46 fap46_0 fae46_0 fd46_0 fap46_1 fae46_1 fd46_1 fap46_2 fae46_2 fd46_2
  fap46_3 fae46_3 fd46_3 fap46_4 fae46_4 fd46_4 ldp50 lde50 zr50 ldp51 lde51 pl51 zr51 ldp53 lde53 pl53 zr53 ldp56 lde56 pl56
  zr56 fap56_0 fae56_0 fd56_0 fap56_1 fae56_1 fd56_1 fap56_2 fae56_2 fd56_2 ldp58 lde58 pl58 zr58 ldp64 lde64 pl64 zr64 fap64_0 fae64_0
  fd64_0 fap64_1 fae64_1 fd64_1 fap64_2 fae64_2 fd64_2 fap64_3 fae64_3 fd64_3
end Go.Proofs.Ytaoondlakhocnaa
