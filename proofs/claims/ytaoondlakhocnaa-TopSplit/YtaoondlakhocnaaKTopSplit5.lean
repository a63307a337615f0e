/-
  Texts of TopSplit, part 6 of 15. What loads, indexing, fields and lengths yield, type by type. Written by program (typack.py).
-/
import Derived.Test.YtaoondlakhocnaaKTopSplit3
import Derived.Test.YtaoondlakhocnaaKTopSplit4
import Derived.Test.YtaoondlakhocnaaProg
import Derived.Shelf.Spec.SlicesInsert
import Derived.Shelf.RegionOpenPlain
import Derived.WalkKit
import Derived.Lib.Walk
import Derived.Lib.SliceRun
import Derived.Lib.JoinLaws
import Derived.Lib.AppendZeros
import Derived.Lib.AppendZerosOnto
import Derived.Laws.NewBlocks
import Derived.Lib.Overlaps
import Derived.Laws.Externs
import Derived.Laws.IdiomCopy
import Derived.KernelRfl
section
namespace Go.Proofs.Ytaoondlakhocnaa
open Go Go.Am

theorem ldp1 (H : Heap) (b o : Nat) : loadV Try.prog H 1 (.ptr b o) = (hget H b).bind fun k => k[o]? := by rw [load_ptr _ H 1 _ ty1 b o]; rfl
theorem lde1 (H : Heap) (l : List AV) (o : Nat) : loadV Try.prog H 1 (.ele l o) = l[o]? := by rw [load_ele _ H 1 _ ty1 l o]; rfl
theorem zr1 : (tyOf Try.prog 1).bind (fun ty => ty.zero) = some [.nilFunc] := by rw [ty1]; rfl
theorem ldp2 (H : Heap) (b o : Nat) : loadV Try.prog H 2 (.ptr b o) = (hget H b).bind fun k => k[o]? := by rw [load_ptr _ H 2 _ ty2 b o]; rfl
theorem lde2 (H : Heap) (l : List AV) (o : Nat) : loadV Try.prog H 2 (.ele l o) = l[o]? := by rw [load_ele _ H 2 _ ty2 l o]; rfl
theorem zr2 : (tyOf Try.prog 2).bind (fun ty => ty.zero) = some [.int .i64 0] := by rw [ty2]; rfl
theorem ldp3 (H : Heap) (b o : Nat) : loadV Try.prog H 3 (.ptr b o) = (hget H b).bind fun k => k[o]? := by rw [load_ptr _ H 3 _ ty3 b o]; rfl
theorem lde3 (H : Heap) (l : List AV) (o : Nat) : loadV Try.prog H 3 (.ele l o) = l[o]? := by rw [load_ele _ H 3 _ ty3 l o]; rfl
theorem zr3 : (tyOf Try.prog 3).bind (fun ty => ty.zero) = some [.int .i64 0] := by rw [ty3]; rfl
theorem ldp4 (H : Heap) (b o : Nat) : loadV Try.prog H 4 (.ptr b o) = (hget H b).bind fun k => k[o]? := by rw [load_ptr _ H 4 _ ty4 b o]; rfl
theorem lde4 (H : Heap) (l : List AV) (o : Nat) : loadV Try.prog H 4 (.ele l o) = l[o]? := by rw [load_ele _ H 4 _ ty4 l o]; rfl
theorem zr4 : (tyOf Try.prog 4).bind (fun ty => ty.zero) = some [.bool false] := by rw [ty4]; rfl
theorem beq4 (a b : Bool) : binV Try.prog .eql 4 (.v (.bool a)) (.v (.bool b)) = some (.v (.bool (a == b))) := by simp only [binV, tk4]
theorem bne4 (a b : Bool) : binV Try.prog .neq 4 (.v (.bool a)) (.v (.bool b)) = some (.v (.bool (!(a == b)))) := by simp only [binV, tk4]
theorem ldp5 (H : Heap) (b o : Nat) : loadV Try.prog H 5 (.ptr b o) = (hget H b).bind fun k => k[o]? := by rw [load_ptr _ H 5 _ ty5 b o]; rfl
theorem lde5 (H : Heap) (l : List AV) (o : Nat) : loadV Try.prog H 5 (.ele l o) = l[o]? := by rw [load_ele _ H 5 _ ty5 l o]; rfl
theorem zr5 : (tyOf Try.prog 5).bind (fun ty => ty.zero) = some [.int .u8 0] := by rw [ty5]; rfl
theorem ldp6 (H : Heap) (b o : Nat) : loadV Try.prog H 6 (.ptr b o) = (hget H b).bind fun k => k[o]? := by rw [load_ptr _ H 6 _ ty6 b o]; rfl
theorem lde6 (H : Heap) (l : List AV) (o : Nat) : loadV Try.prog H 6 (.ele l o) = l[o]? := by rw [load_ele _ H 6 _ ty6 l o]; rfl
theorem zr6 : (tyOf Try.prog 6).bind (fun ty => ty.zero) = some [.int .u8 0] := by rw [ty6]; rfl
theorem ldp22 (H : Heap) (b o : Nat) : loadV Try.prog H 22 (.ptr b o) = (hget H b).bind fun k => k[o]? := by rw [load_ptr _ H 22 _ ty22 b o]; rfl
theorem lde22 (H : Heap) (l : List AV) (o : Nat) : loadV Try.prog H 22 (.ele l o) = l[o]? := by rw [load_ele _ H 22 _ ty22 l o]; rfl
theorem zr22 : (tyOf Try.prog 22).bind (fun ty => ty.zero) = some [.slice none 0 0] := by rw [ty22]; rfl
theorem ias22 (n : Nat) (l : List AV) (k : IntKind) (i : Int) (h0 : 0 ≤ i) (h1 : i < n) : indexAddrV Try.prog 22 (.sl n l) (.v (.int k i)) = some (.ele l (i.toNat)) := by rw [ia_sl _ 22 28 _ tk22 ty28, if_pos ⟨h0, h1⟩]; rw [Nat.mul_one]
theorem iao22 (z b o n : Nat) (k : IntKind) (i : Int) (h0 : 0 ≤ i) (h1 : i < n) : indexAddrV Try.prog 22 (.own z b o n) (.v (.int k i)) = some (.ptr b (o + i.toNat)) := by rw [ia_own _ 22 28 _ tk22 ty28, if_pos ⟨h0, h1⟩]; rw [Nat.mul_one]
theorem lns22 (n : Nat) (l : List AV) : lenV (tyOf Try.prog 22) (.sl n l) = some (.v (.int .i64 n)) := by rw [ty22]; exact len_sl _ 28 _ _ rfl
theorem lno22 (z b o n : Nat) : lenV (tyOf Try.prog 22) (.own z b o n) = some (.v (.int .i64 n)) := by rw [ty22]; exact len_own _ 28 _ _ _ _ rfl
theorem lnn22 (n : Nat) : lenV (tyOf Try.prog 22) (.v (.slice none n 0)) = some (.v (.int .i64 n)) := by rw [ty22]; exact len_nil _ 28 _ rfl
theorem ldp24 (H : Heap) (b o : Nat) : loadV Try.prog H 24 (.ptr b o) = (hget H b).bind fun k => partL { size := 1, bytes := 24, agg := true, k := .struct [(0, 22)], zero := some [.slice none 0 0] } k o := load_ptr _ H 24 _ ty24 b o
theorem lde24 (H : Heap) (l : List AV) (o : Nat) : loadV Try.prog H 24 (.ele l o) = partL { size := 1, bytes := 24, agg := true, k := .struct [(0, 22)], zero := some [.slice none 0 0] } l o := load_ele _ H 24 _ ty24 l o
theorem pl24 (l : List AV) (o : Nat) (h : o + 1 ≤ l.length) : partL { size := 1, bytes := 24, agg := true, k := .struct [(0, 22)], zero := some [.slice none 0 0] } l o = some (.agg ((l.drop o).take 1)) := by rw [partL_agg _ _ _ rfl, if_pos h]
theorem zr24 : (tyOf Try.prog 24).bind (fun ty => ty.zero) = some [.slice none 0 0] := by rw [ty24]; rfl
theorem fap24_0 (b o : Nat) : fieldAddrV Try.prog 24 (.ptr b o) 0 = some (.ptr b (o)) := fa_ptr _ 24 _ tk24 b o 0 0 22 _ rfl ty22 (by decide)
theorem fae24_0 (l : List AV) (o : Nat) : fieldAddrV Try.prog 24 (.ele l o) 0 = some (.ele l (o)) := fa_ele _ 24 _ tk24 l o 0 0 22 _ rfl ty22 (by decide)
theorem fd24_0 (l : List AV) : fieldV Try.prog 24 (.agg l) 0 = l[0]? := by rw [fd_agg _ 24 _ tk24 l 0 0 22 _ rfl ty22]; rfl
theorem ldp25 (H : Heap) (b o : Nat) : loadV Try.prog H 25 (.ptr b o) = (hget H b).bind fun k => k[o]? := by rw [load_ptr _ H 25 _ ty25 b o]; rfl
theorem lde25 (H : Heap) (l : List AV) (o : Nat) : loadV Try.prog H 25 (.ele l o) = l[o]? := by rw [load_ele _ H 25 _ ty25 l o]; rfl
theorem zr25 : (tyOf Try.prog 25).bind (fun ty => ty.zero) = some [.slice none 0 0] := by rw [ty25]; rfl
theorem ias25 (n : Nat) (l : List AV) (k : IntKind) (i : Int) (h0 : 0 ≤ i) (h1 : i < n) : indexAddrV Try.prog 25 (.sl n l) (.v (.int k i)) = some (.ele l (i.toNat * 3)) := by rw [ia_sl _ 25 56 _ tk25 ty56, if_pos ⟨h0, h1⟩]
theorem iao25 (z b o n : Nat) (k : IntKind) (i : Int) (h0 : 0 ≤ i) (h1 : i < n) : indexAddrV Try.prog 25 (.own z b o n) (.v (.int k i)) = some (.ptr b (o + i.toNat * 3)) := by rw [ia_own _ 25 56 _ tk25 ty56, if_pos ⟨h0, h1⟩]
theorem lns25 (n : Nat) (l : List AV) : lenV (tyOf Try.prog 25) (.sl n l) = some (.v (.int .i64 n)) := by rw [ty25]; exact len_sl _ 56 _ _ rfl
theorem lno25 (z b o n : Nat) : lenV (tyOf Try.prog 25) (.own z b o n) = some (.v (.int .i64 n)) := by rw [ty25]; exact len_own _ 56 _ _ _ _ rfl
theorem lnn25 (n : Nat) : lenV (tyOf Try.prog 25) (.v (.slice none n 0)) = some (.v (.int .i64 n)) := by rw [ty25]; exact len_nil _ 56 _ rfl
theorem ldp27 (H : Heap) (b o : Nat) : loadV Try.prog H 27 (.ptr b o) = (hget H b).bind fun k => partL { size := 7, bytes := 104, agg := true, k := .struct [(0, 24), (1, 3), (2, 3), (3, 3), (4, 2), (5, 25), (6, 25)], zero := some [.slice none 0 0, .int .i64 0, .int .i64 0, .int .i64 0, .int .i64 0, .slice none 0 0, .slice none 0 0] } k o := load_ptr _ H 27 _ ty27 b o
theorem lde27 (H : Heap) (l : List AV) (o : Nat) : loadV Try.prog H 27 (.ele l o) = partL { size := 7, bytes := 104, agg := true, k := .struct [(0, 24), (1, 3), (2, 3), (3, 3), (4, 2), (5, 25), (6, 25)], zero := some [.slice none 0 0, .int .i64 0, .int .i64 0, .int .i64 0, .int .i64 0, .slice none 0 0, .slice none 0 0] } l o := load_ele _ H 27 _ ty27 l o
theorem pl27 (l : List AV) (o : Nat) (h : o + 7 ≤ l.length) : partL { size := 7, bytes := 104, agg := true, k := .struct [(0, 24), (1, 3), (2, 3), (3, 3), (4, 2), (5, 25), (6, 25)], zero := some [.slice none 0 0, .int .i64 0, .int .i64 0, .int .i64 0, .int .i64 0, .slice none 0 0, .slice none 0 0] } l o = some (.agg ((l.drop o).take 7)) := by rw [partL_agg _ _ _ rfl, if_pos h]
theorem zr27 : (tyOf Try.prog 27).bind (fun ty => ty.zero) = some [.slice none 0 0, .int .i64 0, .int .i64 0, .int .i64 0, .int .i64 0, .slice none 0 0, .slice none 0 0] := by rw [ty27]; rfl
theorem fap27_0 (b o : Nat) : fieldAddrV Try.prog 27 (.ptr b o) 0 = some (.ptr b (o)) := fa_ptr _ 27 _ tk27 b o 0 0 24 _ rfl ty24 (by decide)
theorem fae27_0 (l : List AV) (o : Nat) : fieldAddrV Try.prog 27 (.ele l o) 0 = some (.ele l (o)) := fa_ele _ 27 _ tk27 l o 0 0 24 _ rfl ty24 (by decide)
theorem fd27_0 (l : List AV) : fieldV Try.prog 27 (.agg l) 0 = partL { size := 1, bytes := 24, agg := true, k := .struct [(0, 22)], zero := some [.slice none 0 0] } l 0 := fd_agg _ 27 _ tk27 l 0 0 24 _ rfl ty24
theorem fap27_1 (b o : Nat) : fieldAddrV Try.prog 27 (.ptr b o) 1 = some (.ptr b (o + 1)) := fa_ptr _ 27 _ tk27 b o 1 1 3 _ rfl ty3 (by decide)
theorem fae27_1 (l : List AV) (o : Nat) : fieldAddrV Try.prog 27 (.ele l o) 1 = some (.ele l (o + 1)) := fa_ele _ 27 _ tk27 l o 1 1 3 _ rfl ty3 (by decide)
theorem fd27_1 (l : List AV) : fieldV Try.prog 27 (.agg l) 1 = l[1]? := by rw [fd_agg _ 27 _ tk27 l 1 1 3 _ rfl ty3]; rfl
theorem fap27_2 (b o : Nat) : fieldAddrV Try.prog 27 (.ptr b o) 2 = some (.ptr b (o + 2)) := fa_ptr _ 27 _ tk27 b o 2 2 3 _ rfl ty3 (by decide)
theorem fae27_2 (l : List AV) (o : Nat) : fieldAddrV Try.prog 27 (.ele l o) 2 = some (.ele l (o + 2)) := fa_ele _ 27 _ tk27 l o 2 2 3 _ rfl ty3 (by decide)
theorem fd27_2 (l : List AV) : fieldV Try.prog 27 (.agg l) 2 = l[2]? := by rw [fd_agg _ 27 _ tk27 l 2 2 3 _ rfl ty3]; rfl
theorem fap27_3 (b o : Nat) : fieldAddrV Try.prog 27 (.ptr b o) 3 = some (.ptr b (o + 3)) := fa_ptr _ 27 _ tk27 b o 3 3 3 _ rfl ty3 (by decide)
theorem fae27_3 (l : List AV) (o : Nat) : fieldAddrV Try.prog 27 (.ele l o) 3 = some (.ele l (o + 3)) := fa_ele _ 27 _ tk27 l o 3 3 3 _ rfl ty3 (by decide)
theorem fd27_3 (l : List AV) : fieldV Try.prog 27 (.agg l) 3 = l[3]? := by rw [fd_agg _ 27 _ tk27 l 3 3 3 _ rfl ty3]; rfl
theorem fap27_4 (b o : Nat) : fieldAddrV Try.prog 27 (.ptr b o) 4 = some (.ptr b (o + 4)) := fa_ptr _ 27 _ tk27 b o 4 4 2 _ rfl ty2 (by decide)
theorem fae27_4 (l : List AV) (o : Nat) : fieldAddrV Try.prog 27 (.ele l o) 4 = some (.ele l (o + 4)) := fa_ele _ 27 _ tk27 l o 4 4 2 _ rfl ty2 (by decide)
theorem fd27_4 (l : List AV) : fieldV Try.prog 27 (.agg l) 4 = l[4]? := by rw [fd_agg _ 27 _ tk27 l 4 4 2 _ rfl ty2]; rfl
theorem fap27_5 (b o : Nat) : fieldAddrV Try.prog 27 (.ptr b o) 5 = some (.ptr b (o + 5)) := fa_ptr _ 27 _ tk27 b o 5 5 25 _ rfl ty25 (by decide)
theorem fae27_5 (l : List AV) (o : Nat) : fieldAddrV Try.prog 27 (.ele l o) 5 = some (.ele l (o + 5)) := fa_ele _ 27 _ tk27 l o 5 5 25 _ rfl ty25 (by decide)
theorem fd27_5 (l : List AV) : fieldV Try.prog 27 (.agg l) 5 = l[5]? := by rw [fd_agg _ 27 _ tk27 l 5 5 25 _ rfl ty25]; rfl
theorem fap27_6 (b o : Nat) : fieldAddrV Try.prog 27 (.ptr b o) 6 = some (.ptr b (o + 6)) := fa_ptr _ 27 _ tk27 b o 6 6 25 _ rfl ty25 (by decide)
theorem fae27_6 (l : List AV) (o : Nat) : fieldAddrV Try.prog 27 (.ele l o) 6 = some (.ele l (o + 6)) := fa_ele _ 27 _ tk27 l o 6 6 25 _ rfl ty25 (by decide)
theorem fd27_6 (l : List AV) : fieldV Try.prog 27 (.agg l) 6 = l[6]? := by rw [fd_agg _ 27 _ tk27 l 6 6 25 _ rfl ty25]; rfl
theorem ldp28 (H : Heap) (b o : Nat) : loadV Try.prog H 28 (.ptr b o) = (hget H b).bind fun k => k[o]? := by rw [load_ptr _ H 28 _ ty28 b o]; rfl
theorem lde28 (H : Heap) (l : List AV) (o : Nat) : loadV Try.prog H 28 (.ele l o) = l[o]? := by rw [load_ele _ H 28 _ ty28 l o]; rfl
theorem zr28 : (tyOf Try.prog 28).bind (fun ty => ty.zero) = some [.slice none 0 0] := by rw [ty28]; rfl
theorem ias28 (n : Nat) (l : List AV) (k : IntKind) (i : Int) (h0 : 0 ≤ i) (h1 : i < n) : indexAddrV Try.prog 28 (.sl n l) (.v (.int k i)) = some (.ele l (i.toNat)) := by rw [ia_sl _ 28 2 _ tk28 ty2, if_pos ⟨h0, h1⟩]; rw [Nat.mul_one]
theorem iao28 (z b o n : Nat) (k : IntKind) (i : Int) (h0 : 0 ≤ i) (h1 : i < n) : indexAddrV Try.prog 28 (.own z b o n) (.v (.int k i)) = some (.ptr b (o + i.toNat)) := by rw [ia_own _ 28 2 _ tk28 ty2, if_pos ⟨h0, h1⟩]; rw [Nat.mul_one]
theorem lns28 (n : Nat) (l : List AV) : lenV (tyOf Try.prog 28) (.sl n l) = some (.v (.int .i64 n)) := by rw [ty28]; exact len_sl _ 2 _ _ rfl
theorem lno28 (z b o n : Nat) : lenV (tyOf Try.prog 28) (.own z b o n) = some (.v (.int .i64 n)) := by rw [ty28]; exact len_own _ 2 _ _ _ _ rfl
theorem lnn28 (n : Nat) : lenV (tyOf Try.prog 28) (.v (.slice none n 0)) = some (.v (.int .i64 n)) := by rw [ty28]; exact len_nil _ 2 _ rfl
theorem ldp30 (H : Heap) (b o : Nat) : loadV Try.prog H 30 (.ptr b o) = (hget H b).bind fun k => partL { size := 2, bytes := 48, agg := true, k := .struct [(0, 28), (1, 28)], zero := some [.slice none 0 0, .slice none 0 0] } k o := load_ptr _ H 30 _ ty30 b o
theorem lde30 (H : Heap) (l : List AV) (o : Nat) : loadV Try.prog H 30 (.ele l o) = partL { size := 2, bytes := 48, agg := true, k := .struct [(0, 28), (1, 28)], zero := some [.slice none 0 0, .slice none 0 0] } l o := load_ele _ H 30 _ ty30 l o
theorem pl30 (l : List AV) (o : Nat) (h : o + 2 ≤ l.length) : partL { size := 2, bytes := 48, agg := true, k := .struct [(0, 28), (1, 28)], zero := some [.slice none 0 0, .slice none 0 0] } l o = some (.agg ((l.drop o).take 2)) := by rw [partL_agg _ _ _ rfl, if_pos h]
theorem zr30 : (tyOf Try.prog 30).bind (fun ty => ty.zero) = some [.slice none 0 0, .slice none 0 0] := by rw [ty30]; rfl
theorem fap30_0 (b o : Nat) : fieldAddrV Try.prog 30 (.ptr b o) 0 = some (.ptr b (o)) := fa_ptr _ 30 _ tk30 b o 0 0 28 _ rfl ty28 (by decide)
theorem fae30_0 (l : List AV) (o : Nat) : fieldAddrV Try.prog 30 (.ele l o) 0 = some (.ele l (o)) := fa_ele _ 30 _ tk30 l o 0 0 28 _ rfl ty28 (by decide)
theorem fd30_0 (l : List AV) : fieldV Try.prog 30 (.agg l) 0 = l[0]? := by rw [fd_agg _ 30 _ tk30 l 0 0 28 _ rfl ty28]; rfl
theorem fap30_1 (b o : Nat) : fieldAddrV Try.prog 30 (.ptr b o) 1 = some (.ptr b (o + 1)) := fa_ptr _ 30 _ tk30 b o 1 1 28 _ rfl ty28 (by decide)
theorem fae30_1 (l : List AV) (o : Nat) : fieldAddrV Try.prog 30 (.ele l o) 1 = some (.ele l (o + 1)) := fa_ele _ 30 _ tk30 l o 1 1 28 _ rfl ty28 (by decide)
theorem fd30_1 (l : List AV) : fieldV Try.prog 30 (.agg l) 1 = l[1]? := by rw [fd_agg _ 30 _ tk30 l 1 1 28 _ rfl ty28]; rfl
theorem ldp31 (H : Heap) (b o : Nat) : loadV Try.prog H 31 (.ptr b o) = (hget H b).bind fun k => partL { size := 3, bytes := 24, agg := true, k := .array 3 2, zero := some [.int .i64 0, .int .i64 0, .int .i64 0] } k o := load_ptr _ H 31 _ ty31 b o
theorem lde31 (H : Heap) (l : List AV) (o : Nat) : loadV Try.prog H 31 (.ele l o) = partL { size := 3, bytes := 24, agg := true, k := .array 3 2, zero := some [.int .i64 0, .int .i64 0, .int .i64 0] } l o := load_ele _ H 31 _ ty31 l o
theorem pl31 (l : List AV) (o : Nat) (h : o + 3 ≤ l.length) : partL { size := 3, bytes := 24, agg := true, k := .array 3 2, zero := some [.int .i64 0, .int .i64 0, .int .i64 0] } l o = some (.agg ((l.drop o).take 3)) := by rw [partL_agg _ _ _ rfl, if_pos h]
theorem zr31 : (tyOf Try.prog 31).bind (fun ty => ty.zero) = some [.int .i64 0, .int .i64 0, .int .i64 0] := by rw [ty31]; rfl
theorem ldp34 (H : Heap) (b o : Nat) : loadV Try.prog H 34 (.ptr b o) = (hget H b).bind fun k => partL { size := 7, bytes := 104, agg := true, k := .struct [(0, 24), (1, 3), (2, 3), (3, 3), (4, 2), (5, 25), (6, 25)], zero := some [.slice none 0 0, .int .i64 0, .int .i64 0, .int .i64 0, .int .i64 0, .slice none 0 0, .slice none 0 0] } k o := load_ptr _ H 34 _ ty34 b o
theorem lde34 (H : Heap) (l : List AV) (o : Nat) : loadV Try.prog H 34 (.ele l o) = partL { size := 7, bytes := 104, agg := true, k := .struct [(0, 24), (1, 3), (2, 3), (3, 3), (4, 2), (5, 25), (6, 25)], zero := some [.slice none 0 0, .int .i64 0, .int .i64 0, .int .i64 0, .int .i64 0, .slice none 0 0, .slice none 0 0] } l o := load_ele _ H 34 _ ty34 l o
theorem pl34 (l : List AV) (o : Nat) (h : o + 7 ≤ l.length) : partL { size := 7, bytes := 104, agg := true, k := .struct [(0, 24), (1, 3), (2, 3), (3, 3), (4, 2), (5, 25), (6, 25)], zero := some [.slice none 0 0, .int .i64 0, .int .i64 0, .int .i64 0, .int .i64 0, .slice none 0 0, .slice none 0 0] } l o = some (.agg ((l.drop o).take 7)) := by rw [partL_agg _ _ _ rfl, if_pos h]
theorem zr34 : (tyOf Try.prog 34).bind (fun ty => ty.zero) = some [.slice none 0 0, .int .i64 0, .int .i64 0, .int .i64 0, .int .i64 0, .slice none 0 0, .slice none 0 0] := by rw [ty34]; rfl
theorem fap34_0 (b o : Nat) : fieldAddrV Try.prog 34 (.ptr b o) 0 = some (.ptr b (o)) := fa_ptr _ 34 _ tk34 b o 0 0 24 _ rfl ty24 (by decide)
theorem fae34_0 (l : List AV) (o : Nat) : fieldAddrV Try.prog 34 (.ele l o) 0 = some (.ele l (o)) := fa_ele _ 34 _ tk34 l o 0 0 24 _ rfl ty24 (by decide)
theorem fd34_0 (l : List AV) : fieldV Try.prog 34 (.agg l) 0 = partL { size := 1, bytes := 24, agg := true, k := .struct [(0, 22)], zero := some [.slice none 0 0] } l 0 := fd_agg _ 34 _ tk34 l 0 0 24 _ rfl ty24
theorem fap34_1 (b o : Nat) : fieldAddrV Try.prog 34 (.ptr b o) 1 = some (.ptr b (o + 1)) := fa_ptr _ 34 _ tk34 b o 1 1 3 _ rfl ty3 (by decide)
theorem fae34_1 (l : List AV) (o : Nat) : fieldAddrV Try.prog 34 (.ele l o) 1 = some (.ele l (o + 1)) := fa_ele _ 34 _ tk34 l o 1 1 3 _ rfl ty3 (by decide)
theorem fd34_1 (l : List AV) : fieldV Try.prog 34 (.agg l) 1 = l[1]? := by rw [fd_agg _ 34 _ tk34 l 1 1 3 _ rfl ty3]; rfl
theorem fap34_2 (b o : Nat) : fieldAddrV Try.prog 34 (.ptr b o) 2 = some (.ptr b (o + 2)) := fa_ptr _ 34 _ tk34 b o 2 2 3 _ rfl ty3 (by decide)
theorem fae34_2 (l : List AV) (o : Nat) : fieldAddrV Try.prog 34 (.ele l o) 2 = some (.ele l (o + 2)) := fa_ele _ 34 _ tk34 l o 2 2 3 _ rfl ty3 (by decide)
theorem fd34_2 (l : List AV) : fieldV Try.prog 34 (.agg l) 2 = l[2]? := by rw [fd_agg _ 34 _ tk34 l 2 2 3 _ rfl ty3]; rfl
theorem fap34_3 (b o : Nat) : fieldAddrV Try.prog 34 (.ptr b o) 3 = some (.ptr b (o + 3)) := fa_ptr _ 34 _ tk34 b o 3 3 3 _ rfl ty3 (by decide)
theorem fae34_3 (l : List AV) (o : Nat) : fieldAddrV Try.prog 34 (.ele l o) 3 = some (.ele l (o + 3)) := fa_ele _ 34 _ tk34 l o 3 3 3 _ rfl ty3 (by decide)
theorem fd34_3 (l : List AV) : fieldV Try.prog 34 (.agg l) 3 = l[3]? := by rw [fd_agg _ 34 _ tk34 l 3 3 3 _ rfl ty3]; rfl
theorem fap34_4 (b o : Nat) : fieldAddrV Try.prog 34 (.ptr b o) 4 = some (.ptr b (o + 4)) := fa_ptr _ 34 _ tk34 b o 4 4 2 _ rfl ty2 (by decide)
theorem fae34_4 (l : List AV) (o : Nat) : fieldAddrV Try.prog 34 (.ele l o) 4 = some (.ele l (o + 4)) := fa_ele _ 34 _ tk34 l o 4 4 2 _ rfl ty2 (by decide)
theorem fd34_4 (l : List AV) : fieldV Try.prog 34 (.agg l) 4 = l[4]? := by rw [fd_agg _ 34 _ tk34 l 4 4 2 _ rfl ty2]; rfl
theorem fap34_5 (b o : Nat) : fieldAddrV Try.prog 34 (.ptr b o) 5 = some (.ptr b (o + 5)) := fa_ptr _ 34 _ tk34 b o 5 5 25 _ rfl ty25 (by decide)
theorem fae34_5 (l : List AV) (o : Nat) : fieldAddrV Try.prog 34 (.ele l o) 5 = some (.ele l (o + 5)) := fa_ele _ 34 _ tk34 l o 5 5 25 _ rfl ty25 (by decide)
theorem fd34_5 (l : List AV) : fieldV Try.prog 34 (.agg l) 5 = l[5]? := by rw [fd_agg _ 34 _ tk34 l 5 5 25 _ rfl ty25]; rfl
theorem fap34_6 (b o : Nat) : fieldAddrV Try.prog 34 (.ptr b o) 6 = some (.ptr b (o + 6)) := fa_ptr _ 34 _ tk34 b o 6 6 25 _ rfl ty25 (by decide)
theorem fae34_6 (l : List AV) (o : Nat) : fieldAddrV Try.prog 34 (.ele l o) 6 = some (.ele l (o + 6)) := fa_ele _ 34 _ tk34 l o 6 6 25 _ rfl ty25 (by decide)
theorem fd34_6 (l : List AV) : fieldV Try.prog 34 (.agg l) 6 = l[6]? := by rw [fd_agg _ 34 _ tk34 l 6 6 25 _ rfl ty25]; rfl
theorem ldp36 (H : Heap) (b o : Nat) : loadV Try.prog H 36 (.ptr b o) = (hget H b).bind fun k => k[o]? := by rw [load_ptr _ H 36 _ ty36 b o]; rfl
theorem lde36 (H : Heap) (l : List AV) (o : Nat) : loadV Try.prog H 36 (.ele l o) = l[o]? := by rw [load_ele _ H 36 _ ty36 l o]; rfl
theorem zr36 : (tyOf Try.prog 36).bind (fun ty => ty.zero) = some [.int .i64 0] := by rw [ty36]; rfl
theorem ldp43 (H : Heap) (b o : Nat) : loadV Try.prog H 43 (.ptr b o) = (hget H b).bind fun k => k[o]? := by rw [load_ptr _ H 43 _ ty43 b o]; rfl
theorem lde43 (H : Heap) (l : List AV) (o : Nat) : loadV Try.prog H 43 (.ele l o) = l[o]? := by rw [load_ele _ H 43 _ ty43 l o]; rfl
theorem zr43 : (tyOf Try.prog 43).bind (fun ty => ty.zero) = some [.slice none 0 0] := by rw [ty43]; rfl
theorem ias43 (n : Nat) (l : List AV) (k : IntKind) (i : Int) (h0 : 0 ≤ i) (h1 : i < n) : indexAddrV Try.prog 43 (.sl n l) (.v (.int k i)) = some (.ele l (i.toNat * 7)) := by rw [ia_sl _ 43 34 _ tk43 ty34, if_pos ⟨h0, h1⟩]
theorem iao43 (z b o n : Nat) (k : IntKind) (i : Int) (h0 : 0 ≤ i) (h1 : i < n) : indexAddrV Try.prog 43 (.own z b o n) (.v (.int k i)) = some (.ptr b (o + i.toNat * 7)) := by rw [ia_own _ 43 34 _ tk43 ty34, if_pos ⟨h0, h1⟩]
theorem lns43 (n : Nat) (l : List AV) : lenV (tyOf Try.prog 43) (.sl n l) = some (.v (.int .i64 n)) := by rw [ty43]; exact len_sl _ 34 _ _ rfl
theorem lno43 (z b o n : Nat) : lenV (tyOf Try.prog 43) (.own z b o n) = some (.v (.int .i64 n)) := by rw [ty43]; exact len_own _ 34 _ _ _ _ rfl
theorem lnn43 (n : Nat) : lenV (tyOf Try.prog 43) (.v (.slice none n 0)) = some (.v (.int .i64 n)) := by rw [ty43]; exact len_nil _ 34 _ rfl
theorem ldp46 (H : Heap) (b o : Nat) : loadV Try.prog H 46 (.ptr b o) = (hget H b).bind fun k => partL { size := 5, bytes := 40, agg := true, k := .struct [(0, 3), (1, 2), (2, 2), (3, 2), (4, 3)], zero := some [.int .i64 0, .int .i64 0, .int .i64 0, .int .i64 0, .int .i64 0] } k o := load_ptr _ H 46 _ ty46 b o
theorem lde46 (H : Heap) (l : List AV) (o : Nat) : loadV Try.prog H 46 (.ele l o) = partL { size := 5, bytes := 40, agg := true, k := .struct [(0, 3), (1, 2), (2, 2), (3, 2), (4, 3)], zero := some [.int .i64 0, .int .i64 0, .int .i64 0, .int .i64 0, .int .i64 0] } l o := load_ele _ H 46 _ ty46 l o
theorem pl46 (l : List AV) (o : Nat) (h : o + 5 ≤ l.length) : partL { size := 5, bytes := 40, agg := true, k := .struct [(0, 3), (1, 2), (2, 2), (3, 2), (4, 3)], zero := some [.int .i64 0, .int .i64 0, .int .i64 0, .int .i64 0, .int .i64 0] } l o = some (.agg ((l.drop o).take 5)) := by rw [partL_agg _ _ _ rfl, if_pos h]
theorem zr46 : (tyOf Try.prog 46).bind (fun ty => ty.zero) = some [.int .i64 0, .int .i64 0, .int .i64 0, .int .i64 0, .int .i64 0] := by rw [ty46]; rfl
theorem fap46_0 (b o : Nat) : fieldAddrV Try.prog 46 (.ptr b o) 0 = some (.ptr b (o)) := fa_ptr _ 46 _ tk46 b o 0 0 3 _ rfl ty3 (by decide)
theorem fae46_0 (l : List AV) (o : Nat) : fieldAddrV Try.prog 46 (.ele l o) 0 = some (.ele l (o)) := fa_ele _ 46 _ tk46 l o 0 0 3 _ rfl ty3 (by decide)
theorem fd46_0 (l : List AV) : fieldV Try.prog 46 (.agg l) 0 = l[0]? := by rw [fd_agg _ 46 _ tk46 l 0 0 3 _ rfl ty3]; rfl
theorem fap46_1 (b o : Nat) : fieldAddrV Try.prog 46 (.ptr b o) 1 = some (.ptr b (o + 1)) := fa_ptr _ 46 _ tk46 b o 1 1 2 _ rfl ty2 (by decide)
theorem fae46_1 (l : List AV) (o : Nat) : fieldAddrV Try.prog 46 (.ele l o) 1 = some (.ele l (o + 1)) := fa_ele _ 46 _ tk46 l o 1 1 2 _ rfl ty2 (by decide)
theorem fd46_1 (l : List AV) : fieldV Try.prog 46 (.agg l) 1 = l[1]? := by rw [fd_agg _ 46 _ tk46 l 1 1 2 _ rfl ty2]; rfl
theorem fap46_2 (b o : Nat) : fieldAddrV Try.prog 46 (.ptr b o) 2 = some (.ptr b (o + 2)) := fa_ptr _ 46 _ tk46 b o 2 2 2 _ rfl ty2 (by decide)
theorem fae46_2 (l : List AV) (o : Nat) : fieldAddrV Try.prog 46 (.ele l o) 2 = some (.ele l (o + 2)) := fa_ele _ 46 _ tk46 l o 2 2 2 _ rfl ty2 (by decide)
theorem fd46_2 (l : List AV) : fieldV Try.prog 46 (.agg l) 2 = l[2]? := by rw [fd_agg _ 46 _ tk46 l 2 2 2 _ rfl ty2]; rfl
theorem fap46_3 (b o : Nat) : fieldAddrV Try.prog 46 (.ptr b o) 3 = some (.ptr b (o + 3)) := fa_ptr _ 46 _ tk46 b o 3 3 2 _ rfl ty2 (by decide)
theorem fae46_3 (l : List AV) (o : Nat) : fieldAddrV Try.prog 46 (.ele l o) 3 = some (.ele l (o + 3)) := fa_ele _ 46 _ tk46 l o 3 3 2 _ rfl ty2 (by decide)
theorem fd46_3 (l : List AV) : fieldV Try.prog 46 (.agg l) 3 = l[3]? := by rw [fd_agg _ 46 _ tk46 l 3 3 2 _ rfl ty2]; rfl
theorem fap46_4 (b o : Nat) : fieldAddrV Try.prog 46 (.ptr b o) 4 = some (.ptr b (o + 4)) := fa_ptr _ 46 _ tk46 b o 4 4 3 _ rfl ty3 (by decide)
theorem fae46_4 (l : List AV) (o : Nat) : fieldAddrV Try.prog 46 (.ele l o) 4 = some (.ele l (o + 4)) := fa_ele _ 46 _ tk46 l o 4 4 3 _ rfl ty3 (by decide)
theorem fd46_4 (l : List AV) : fieldV Try.prog 46 (.agg l) 4 = l[4]? := by rw [fd_agg _ 46 _ tk46 l 4 4 3 _ rfl ty3]; rfl
theorem ldp50 (H : Heap) (b o : Nat) : loadV Try.prog H 50 (.ptr b o) = (hget H b).bind fun k => k[o]? := by rw [load_ptr _ H 50 _ ty50 b o]; rfl
theorem lde50 (H : Heap) (l : List AV) (o : Nat) : loadV Try.prog H 50 (.ele l o) = l[o]? := by rw [load_ele _ H 50 _ ty50 l o]; rfl
theorem zr50 : (tyOf Try.prog 50).bind (fun ty => ty.zero) = some [.int .u16 0] := by rw [ty50]; rfl
theorem ldp51 (H : Heap) (b o : Nat) : loadV Try.prog H 51 (.ptr b o) = (hget H b).bind fun k => partL { size := 3, bytes := 6, agg := true, k := .array 3 50, zero := some [.int .u16 0, .int .u16 0, .int .u16 0] } k o := load_ptr _ H 51 _ ty51 b o
theorem lde51 (H : Heap) (l : List AV) (o : Nat) : loadV Try.prog H 51 (.ele l o) = partL { size := 3, bytes := 6, agg := true, k := .array 3 50, zero := some [.int .u16 0, .int .u16 0, .int .u16 0] } l o := load_ele _ H 51 _ ty51 l o
theorem pl51 (l : List AV) (o : Nat) (h : o + 3 ≤ l.length) : partL { size := 3, bytes := 6, agg := true, k := .array 3 50, zero := some [.int .u16 0, .int .u16 0, .int .u16 0] } l o = some (.agg ((l.drop o).take 3)) := by rw [partL_agg _ _ _ rfl, if_pos h]
theorem zr51 : (tyOf Try.prog 51).bind (fun ty => ty.zero) = some [.int .u16 0, .int .u16 0, .int .u16 0] := by rw [ty51]; rfl
theorem ldp53 (H : Heap) (b o : Nat) : loadV Try.prog H 53 (.ptr b o) = (hget H b).bind fun k => partL { size := 2, bytes := 16, agg := true, k := .array 2 2, zero := some [.int .i64 0, .int .i64 0] } k o := load_ptr _ H 53 _ ty53 b o
theorem lde53 (H : Heap) (l : List AV) (o : Nat) : loadV Try.prog H 53 (.ele l o) = partL { size := 2, bytes := 16, agg := true, k := .array 2 2, zero := some [.int .i64 0, .int .i64 0] } l o := load_ele _ H 53 _ ty53 l o
theorem pl53 (l : List AV) (o : Nat) (h : o + 2 ≤ l.length) : partL { size := 2, bytes := 16, agg := true, k := .array 2 2, zero := some [.int .i64 0, .int .i64 0] } l o = some (.agg ((l.drop o).take 2)) := by rw [partL_agg _ _ _ rfl, if_pos h]
theorem zr53 : (tyOf Try.prog 53).bind (fun ty => ty.zero) = some [.int .i64 0, .int .i64 0] := by rw [ty53]; rfl
theorem ldp56 (H : Heap) (b o : Nat) : loadV Try.prog H 56 (.ptr b o) = (hget H b).bind fun k => partL { size := 3, bytes := 24, agg := true, k := .struct [(0, 2), (1, 2), (2, 3)], zero := some [.int .i64 0, .int .i64 0, .int .i64 0] } k o := load_ptr _ H 56 _ ty56 b o
theorem lde56 (H : Heap) (l : List AV) (o : Nat) : loadV Try.prog H 56 (.ele l o) = partL { size := 3, bytes := 24, agg := true, k := .struct [(0, 2), (1, 2), (2, 3)], zero := some [.int .i64 0, .int .i64 0, .int .i64 0] } l o := load_ele _ H 56 _ ty56 l o
theorem pl56 (l : List AV) (o : Nat) (h : o + 3 ≤ l.length) : partL { size := 3, bytes := 24, agg := true, k := .struct [(0, 2), (1, 2), (2, 3)], zero := some [.int .i64 0, .int .i64 0, .int .i64 0] } l o = some (.agg ((l.drop o).take 3)) := by rw [partL_agg _ _ _ rfl, if_pos h]
theorem zr56 : (tyOf Try.prog 56).bind (fun ty => ty.zero) = some [.int .i64 0, .int .i64 0, .int .i64 0] := by rw [ty56]; rfl
theorem fap56_0 (b o : Nat) : fieldAddrV Try.prog 56 (.ptr b o) 0 = some (.ptr b (o)) := fa_ptr _ 56 _ tk56 b o 0 0 2 _ rfl ty2 (by decide)
theorem fae56_0 (l : List AV) (o : Nat) : fieldAddrV Try.prog 56 (.ele l o) 0 = some (.ele l (o)) := fa_ele _ 56 _ tk56 l o 0 0 2 _ rfl ty2 (by decide)
theorem fd56_0 (l : List AV) : fieldV Try.prog 56 (.agg l) 0 = l[0]? := by rw [fd_agg _ 56 _ tk56 l 0 0 2 _ rfl ty2]; rfl
theorem fap56_1 (b o : Nat) : fieldAddrV Try.prog 56 (.ptr b o) 1 = some (.ptr b (o + 1)) := fa_ptr _ 56 _ tk56 b o 1 1 2 _ rfl ty2 (by decide)
theorem fae56_1 (l : List AV) (o : Nat) : fieldAddrV Try.prog 56 (.ele l o) 1 = some (.ele l (o + 1)) := fa_ele _ 56 _ tk56 l o 1 1 2 _ rfl ty2 (by decide)
theorem fd56_1 (l : List AV) : fieldV Try.prog 56 (.agg l) 1 = l[1]? := by rw [fd_agg _ 56 _ tk56 l 1 1 2 _ rfl ty2]; rfl
theorem fap56_2 (b o : Nat) : fieldAddrV Try.prog 56 (.ptr b o) 2 = some (.ptr b (o + 2)) := fa_ptr _ 56 _ tk56 b o 2 2 3 _ rfl ty3 (by decide)
theorem fae56_2 (l : List AV) (o : Nat) : fieldAddrV Try.prog 56 (.ele l o) 2 = some (.ele l (o + 2)) := fa_ele _ 56 _ tk56 l o 2 2 3 _ rfl ty3 (by decide)
theorem fd56_2 (l : List AV) : fieldV Try.prog 56 (.agg l) 2 = l[2]? := by rw [fd_agg _ 56 _ tk56 l 2 2 3 _ rfl ty3]; rfl
theorem ldp58 (H : Heap) (b o : Nat) : loadV Try.prog H 58 (.ptr b o) = (hget H b).bind fun k => partL { size := 2, bytes := 16, agg := true, k := .array 2 3, zero := some [.int .i64 0, .int .i64 0] } k o := load_ptr _ H 58 _ ty58 b o
theorem lde58 (H : Heap) (l : List AV) (o : Nat) : loadV Try.prog H 58 (.ele l o) = partL { size := 2, bytes := 16, agg := true, k := .array 2 3, zero := some [.int .i64 0, .int .i64 0] } l o := load_ele _ H 58 _ ty58 l o
theorem pl58 (l : List AV) (o : Nat) (h : o + 2 ≤ l.length) : partL { size := 2, bytes := 16, agg := true, k := .array 2 3, zero := some [.int .i64 0, .int .i64 0] } l o = some (.agg ((l.drop o).take 2)) := by rw [partL_agg _ _ _ rfl, if_pos h]
theorem zr58 : (tyOf Try.prog 58).bind (fun ty => ty.zero) = some [.int .i64 0, .int .i64 0] := by rw [ty58]; rfl
theorem ldp64 (H : Heap) (b o : Nat) : loadV Try.prog H 64 (.ptr b o) = (hget H b).bind fun k => partL { size := 4, bytes := 64, agg := true, k := .struct [(0, 24), (1, 3), (2, 2), (3, 25)], zero := some [.slice none 0 0, .int .i64 0, .int .i64 0, .slice none 0 0] } k o := load_ptr _ H 64 _ ty64 b o
theorem lde64 (H : Heap) (l : List AV) (o : Nat) : loadV Try.prog H 64 (.ele l o) = partL { size := 4, bytes := 64, agg := true, k := .struct [(0, 24), (1, 3), (2, 2), (3, 25)], zero := some [.slice none 0 0, .int .i64 0, .int .i64 0, .slice none 0 0] } l o := load_ele _ H 64 _ ty64 l o
theorem pl64 (l : List AV) (o : Nat) (h : o + 4 ≤ l.length) : partL { size := 4, bytes := 64, agg := true, k := .struct [(0, 24), (1, 3), (2, 2), (3, 25)], zero := some [.slice none 0 0, .int .i64 0, .int .i64 0, .slice none 0 0] } l o = some (.agg ((l.drop o).take 4)) := by rw [partL_agg _ _ _ rfl, if_pos h]
theorem zr64 : (tyOf Try.prog 64).bind (fun ty => ty.zero) = some [.slice none 0 0, .int .i64 0, .int .i64 0, .slice none 0 0] := by rw [ty64]; rfl
theorem fap64_0 (b o : Nat) : fieldAddrV Try.prog 64 (.ptr b o) 0 = some (.ptr b (o)) := fa_ptr _ 64 _ tk64 b o 0 0 24 _ rfl ty24 (by decide)
theorem fae64_0 (l : List AV) (o : Nat) : fieldAddrV Try.prog 64 (.ele l o) 0 = some (.ele l (o)) := fa_ele _ 64 _ tk64 l o 0 0 24 _ rfl ty24 (by decide)
theorem fd64_0 (l : List AV) : fieldV Try.prog 64 (.agg l) 0 = partL { size := 1, bytes := 24, agg := true, k := .struct [(0, 22)], zero := some [.slice none 0 0] } l 0 := fd_agg _ 64 _ tk64 l 0 0 24 _ rfl ty24
theorem fap64_1 (b o : Nat) : fieldAddrV Try.prog 64 (.ptr b o) 1 = some (.ptr b (o + 1)) := fa_ptr _ 64 _ tk64 b o 1 1 3 _ rfl ty3 (by decide)
theorem fae64_1 (l : List AV) (o : Nat) : fieldAddrV Try.prog 64 (.ele l o) 1 = some (.ele l (o + 1)) := fa_ele _ 64 _ tk64 l o 1 1 3 _ rfl ty3 (by decide)
theorem fd64_1 (l : List AV) : fieldV Try.prog 64 (.agg l) 1 = l[1]? := by rw [fd_agg _ 64 _ tk64 l 1 1 3 _ rfl ty3]; rfl
theorem fap64_2 (b o : Nat) : fieldAddrV Try.prog 64 (.ptr b o) 2 = some (.ptr b (o + 2)) := fa_ptr _ 64 _ tk64 b o 2 2 2 _ rfl ty2 (by decide)
theorem fae64_2 (l : List AV) (o : Nat) : fieldAddrV Try.prog 64 (.ele l o) 2 = some (.ele l (o + 2)) := fa_ele _ 64 _ tk64 l o 2 2 2 _ rfl ty2 (by decide)
theorem fd64_2 (l : List AV) : fieldV Try.prog 64 (.agg l) 2 = l[2]? := by rw [fd_agg _ 64 _ tk64 l 2 2 2 _ rfl ty2]; rfl
theorem fap64_3 (b o : Nat) : fieldAddrV Try.prog 64 (.ptr b o) 3 = some (.ptr b (o + 3)) := fa_ptr _ 64 _ tk64 b o 3 3 25 _ rfl ty25 (by decide)
theorem fae64_3 (l : List AV) (o : Nat) : fieldAddrV Try.prog 64 (.ele l o) 3 = some (.ele l (o + 3)) := fa_ele _ 64 _ tk64 l o 3 3 25 _ rfl ty25 (by decide)
theorem fd64_3 (l : List AV) : fieldV Try.prog 64 (.agg l) 3 = l[3]? := by rw [fd_agg _ 64 _ tk64 l 3 3 25 _ rfl ty25]; rfl

attribute [go_sem] ldp1 lde1 zr1 ldp2 lde2 zr2 ldp3 lde3 zr3 ldp4 lde4 zr4 beq4 bne4 ldp5 lde5 zr5 ldp6 lde6 zr6
  ldp22 lde22 zr22 ias22 iao22 lns22 lno22 lnn22 ldp24 lde24 pl24 zr24 fap24_0 fae24_0 fd24_0 ldp25 lde25 zr25 ias25 iao25
  lns25 lno25 lnn25 ldp27 lde27 pl27 zr27 fap27_0 fae27_0 fd27_0 fap27_1 fae27_1 fd27_1 fap27_2 fae27_2 fd27_2 fap27_3 fae27_3 fd27_3 fap27_4
  fae27_4 fd27_4 fap27_5 fae27_5 fd27_5 fap27_6 fae27_6 fd27_6 ldp28 lde28 zr28 ias28 iao28 lns28 lno28 lnn28 ldp30 lde30 pl30 zr30
  fap30_0 fae30_0 fd30_0 fap30_1 fae30_1 fd30_1 ldp31 lde31 pl31 zr31 ldp34 lde34 pl34 zr34 fap34_0 fae34_0 fd34_0 fap34_1 fae34_1 fd34_1
  fap34_2 fae34_2 fd34_2 fap34_3 fae34_3 fd34_3 fap34_4 fae34_4 fd34_4 fap34_5 fae34_5 fd34_5 fap34_6 fae34_6 fd34_6 ldp36 lde36 zr36 ldp43 lde43
  zr43 ias43 iao43 lns43 lno43 lnn43 ldp46 lde46 pl46 zr46 fap46_0 fae46_0 fd46_0 fap46_1 fae46_1 fd46_1 fap46_2 fae46_2 fd46_2 fap46_3
  fae46_3 fd46_3 fap46_4 fae46_4 fd46_4 ldp50 lde50 zr50 ldp51 lde51 pl51 zr51 ldp53 lde53 pl53 zr53 ldp56 lde56 pl56 zr56
  fap56_0 fae56_0 fd56_0 fap56_1 fae56_1 fd56_1 fap56_2 fae56_2 fd56_2 ldp58 lde58 pl58 zr58 ldp64 lde64 pl64 zr64 fap64_0 fae64_0 fd64_0
  fap64_1 fae64_1 fd64_1 fap64_2 fae64_2 fd64_2 fap64_3 fae64_3 fd64_3
end Go.Proofs.Ytaoondlakhocnaa
end
section
set_option linter.unusedVariables false
set_option linter.unusedSimpArgs false
namespace Go.Proofs.Ytaoondlakhocnaa
open Go Go.Am Go.Shelf Go.RowKit Go.Lib
section
variable {P : Program}
/-- 'copy' at an element of k cells: all is read before anything is written. -/
theorem run_copy_k (w : World) (dT sT ty elem : TypeId) (b o dLen dCap : Nat) (a : Addr) (sLen sCap k : Nat) (cs : List Value)
    (hu : P.underlying dT = some (.slice elem)) (hs : (P.info? elem).map (·.size) = some k) (hn : cs.length = Nat.min sLen dLen * k)
    (hsrc : ∀ j v, cs[j]? = some v → w.cell? (a.add j) = some v) (hc : ∀ j, j < cs.length → (w.cell? ⟨b, o + j, none⟩).isSome = true) (hf : ∀ j, j < cs.length → w.frozen? ⟨b, o + j, none⟩ = false) (h1 : ∀ v ∈ cs, v.oneCell' = true) :
    (Builtin.copy_ #[dT, sT] ty #[.slice (some ⟨b, o, none⟩) dLen dCap, .slice (some a) sLen sCap]).run P w = .ok (goInt (Nat.min sLen dLen)) (w.setCells b o cs) := by
  have hl := run_loadCells_list (P := P) w a cs hsrc
  have hst := run_storeCells_cells (P := P) b o cs 0 w (by simpa using hc) (by simpa using hf) h1
  rw [hn] at hl
  cases hq : P.info? elem with
  | none => simp [hq] at hs
  | some i =>
    have hi : i.size = k := by simpa [hq] using hs
    simp [Builtin.copy_, run_underlying hu, Builtin.lenOf, Builtin.firstCells, sizeOf, typeInfo, hq, hi, hl, hst]
end
noncomputable def iE : TypeInfo := (Try.prog.info? 56).get (by kernel_rfl)
theorem iE_eq : Try.prog.info? 56 = some iE := by kernel_rfl
theorem iE_zero : iE.zero = some (.agg #[.int .i64 0, .int .i64 0, .int .i64 0]) := by kernel_rfl
theorem iE_size : iE.size = 3 := by kernel_rfl
theorem iE_bytes : iE.bytes = 24 := by kernel_rfl
theorem hszE : (Try.prog.info? 56).map (·.size) = some 3 := by kernel_rfl

set_option maxHeartbeats 4000000 in
set_option maxRecDepth 100000 in
/-- There is room, i < len(s): in place. -/
theorem ins_shift (b off n c i vb voff vc : Nat) (cs vs : List Value) (w : World) (hi : i < n) (hroom : n + 1 ≤ c) (hc63 : c ≤ 9223372036854775807) (hvb : vb ≠ b)
    (hcl : cs.length = n * 3) (hvl : vs.length = 3)
    (hcs : ∀ j v, cs[j]? = some v → w.cell? ⟨b, off + j, none⟩ = some v) (hsp : ∀ j, j < (n + 1) * 3 → (w.cell? ⟨b, off + j, none⟩).isSome = true) (hfz : ∀ j, j < (n + 1) * 3 → w.frozen? ⟨b, off + j, none⟩ = false)
    (hvs : ∀ j v, vs[j]? = some v → w.cell? ⟨vb, voff + j, none⟩ = some v) (h1c : ∀ v ∈ cs, v.oneCell' = true) (h1v : ∀ v ∈ vs, v.oneCell' = true)
    (tA tB : TypeId) (kA kB : Nat) (hsa : w.shape? vb = some (tA, kA)) (hsb : w.shape? b = some (tB, kB)) (hkB : kB ≠ 0) (hfa : w.frozen? ⟨vb, voff, none⟩ = false) (hfe : w.frozen? ⟨vb, kA, none⟩ = false) :
    Calls Try.prog 62 #[.slice (some ⟨b, off, none⟩) n c, .int .i64 i, .slice (some ⟨vb, voff, none⟩) 1 vc] w fun e w' =>
      e = .returned (.slice (some ⟨b, off, none⟩) (n + 1) c) ∧ w' = (w.drew.setCells b (off + (i + 1) * 3) (cs.drop (i * 3))).setCells b (off + i * 3) vs := by
  have u3 := run_underlying Try.underlying3; have u24 := run_underlying Try.underlying25
  have hz2 : ¬ ((i : Int) = (n : Int)) := by omega
  have hov : ∀ lb cb, (callFunc 68 #[.slice (some ⟨vb, voff, none⟩) 1 vc, .slice (some ⟨b, off + (i + 1) * 3, none⟩) lb cb]).run Try.prog w = .ok (.value (.bool false)) w := fun lb cb => by
    rw [run_callFunc_extern Try.func68 (by kernel_rfl) (by kernel_rfl) (by kernel_rfl) (e := Extern.SlicesOverlaps.overlaps #[25, 25] #[4]) (by kernel_rfl),
      Lib.run_overlaps_apart w 25 4 56 Try.underlying25 3 Try.sizeOf56 ⟨vb, voff, none⟩ ⟨b, off + (i + 1) * 3, none⟩ 1 vc lb cb hvb tA tB kA kB hsa hsb hkB hfa hfe]
    rfl
  have hdl : (cs.drop (i * 3)).length = (n - i) * 3 := by rw [List.length_drop, hcl]; omega
  have mixed : Try.prog.follows .mixedOrders = true := by kernel_rfl
  have hw1 : IntKind.i64.wrap ((i : Int) + 1) = (i : Int) + 1 := by rw [IntKind.wrap_i64]; omega
  have hw2 : IntKind.i64.wrap ((n : Int) + 1) = (n : Int) + 1 := by rw [IntKind.wrap_i64]; omega
  have hb1 : (0 : Int) ≤ (i : Int) + 1 := by omega
  have hin : i ≤ n := by omega
  have htn : ((i : Int) + 1).toNat = i + 1 := by omega
  have htn2 : ((n : Int) + 1).toNat = n + 1 := by omega
  have hb2 : ¬ (c = i + 1) := by omega
  have hb3 : (i : Int) ≤ (n : Int) + 1 := by omega
  have hb4 : ¬ (c = i) := by omega
  have hcp1 : ∀ ty dc sc, (Builtin.copy_ #[25, 25] ty #[.slice (some ⟨b, off + (i + 1) * 3, none⟩) (n - i) dc, .slice (some ⟨b, off + i * 3, none⟩) (n + 1 - i) sc]).run Try.prog w.drew = .ok (goInt (Nat.min (n + 1 - i) (n - i))) (w.drew.setCells b (off + (i + 1) * 3) (cs.drop (i * 3))) := fun ty dc sc =>
    run_copy_k w.drew _ _ ty 56 b (off + (i + 1) * 3) (n - i) dc ⟨b, off + i * 3, none⟩ (n + 1 - i) sc 3 (cs.drop (i * 3)) Try.underlying25 hszE (by rw [hdl]; simp only [Nat.min_def]; split <;> omega)
      (fun j v hj => by rw [Addr.add_lit, Nat.add_assoc]; exact hcs (i * 3 + j) v (by rwa [List.getElem?_drop] at hj))
      (fun j hj => by rw [Nat.add_assoc]; exact hsp _ (by omega)) (fun j hj => by rw [Nat.add_assoc]; exact hfz _ (by omega)) (fun v hv => h1c v (List.mem_of_mem_drop hv))
  obtain ⟨W1, hW1⟩ : ∃ W1, W1 = w.drew.setCells b (off + (i + 1) * 3) (cs.drop (i * 3)) := ⟨_, rfl⟩
  have hsp1 : ∀ k, k < (n + 1) * 3 → (W1.cell? ⟨b, off + k, none⟩).isSome = true := fun k hk => by
    rw [hW1]
    exact isSome_setCells b _ _ _ (fun j hj => by rw [Nat.add_assoc]; exact hsp _ (by omega)) _ (hsp k hk)
  have hcp2 : ∀ (W : World), (∀ x, W.cell? x = W1.cell? x) → (∀ x, W.frozen? x = W1.frozen? x) → ∀ ty dc, (Builtin.copy_ #[25, 25] ty #[.slice (some ⟨b, off + i * 3, none⟩) (n + 1 - i) dc, .slice (some ⟨vb, voff, none⟩) 1 vc]).run Try.prog W = .ok (goInt (Nat.min 1 (n + 1 - i))) (W.setCells b (off + i * 3) vs) := fun W hWc hWf ty dc =>
    run_copy_k W _ _ ty 56 b (off + i * 3) (n + 1 - i) dc ⟨vb, voff, none⟩ 1 vc 3 vs Try.underlying25 hszE (by rw [hvl]; simp only [Nat.min_def]; split <;> omega)
      (fun j v hj => by
        rw [Addr.add_lit, hWc, hW1, World.cell?_setCells_out b _ _ _ _ (fun h _ => absurd h hvb)]
        exact hvs j v hj)
      (fun j hj => by rw [hWc, Nat.add_assoc]; exact hsp1 _ (by omega)) (fun j hj => by rw [hWf, hW1, World.frozen?_setCells, Nat.add_assoc]; exact hfz _ (by omega)) h1v
  rw [← hW1] at hcp1
  go_enter Try.func62, Try.ntmps62
  go_wp2_with (simp only [hov])
  go_region_law_o (refine step_copy_runI rfl _ _ 25 25 rfl _ _ (by simp [Act.eval, Act.put]) (by simp [Act.eval, Act.put]) (hcp1 _ _ _) ?_)
  go_wp2_with (at_builtin; refine wpList_copy_runI _ rfl _ _ 25 25 rfl _ _ rfl rfl (hcp2 _ (fun _ => rfl) (fun _ => rfl) _ _) ?_)
  go_ret
  first | exact ⟨rfl, rfl⟩ | exact ⟨rfl, by rw [hW1]⟩

set_option maxHeartbeats 4000000 in
set_option maxRecDepth 100000 in
/-- At the end: the builtin's own answer, whatever it is. -/
theorem ins_end (b off n c : Nat) (hnc : n ≤ c) (hc : c ≤ 9223372036854775807) (x : Value) (w : World) {z : Value} {w2 : World} (vb voff vc : Nat)
    (hx : x = .slice (some ⟨vb, voff, none⟩) 1 vc) (hrun : ∀ ty, (Builtin.append_ #[25, 25] ty #[.slice (some ⟨b, off, none⟩) n c, x]).run Try.prog w = .ok z w2) :
    Calls Try.prog 62 #[.slice (some ⟨b, off, none⟩) n c, .int .i64 n, x] w fun e w' => e = .returned z ∧ w' = w2 := by
  subst hx
  have u3 := run_underlying Try.underlying3; have u24 := run_underlying Try.underlying25
  have mixed : Try.prog.follows .mixedOrders = true := by kernel_rfl
  go_enter Try.func62, Try.ntmps62
  go_wp2_with (at_builtin; refine Lib.wpList_append_run _ rfl _ _ _ _ rfl _ _ rfl rfl _ _ (hrun _) ?_)
  all_goals (go_ret; exact ⟨rfl, rfl⟩)

set_option maxHeartbeats 4000000 in
set_option maxRecDepth 100000 in
/-- i < len(s), no room: a new row. -/
theorem ins_grow (b off n c i vb voff vc : Nat) (cs vs : List Value) (w : World) (hi : i < n) (hnc : n ≤ c) (hroom : c < n + 1) (hbig : n ≤ 100000)
    (hcl : cs.length = n * 3) (hvl : vs.length = 3)
    (hcs : ∀ j v, cs[j]? = some v → w.cell? ⟨b, off + j, none⟩ = some v)
    (hvs : ∀ j v, vs[j]? = some v → w.cell? ⟨vb, voff + j, none⟩ = some v) (h1c : ∀ v ∈ cs, v.oneCell' = true) (h1v : ∀ v ∈ vs, v.oneCell' = true) :
    Calls Try.prog 62 #[.slice (some ⟨b, off, none⟩) n c, .int .i64 i, .slice (some ⟨vb, voff, none⟩) 1 vc] w fun e w' =>
      ∃ (G : Nat) (ROW : Array Value), e = .returned (.slice (some ⟨w.heap.size, 0, none⟩) (n + 1) G) ∧ n + 1 ≤ G ∧ G ≤ maxLen ∧ ROW.size = G * 3 ∧ (∀ (j : Nat) (v : Value), (cs.take (i * 3))[j]? = some v → ROW[j]? = some v) ∧
      w' = (((w.alloc (.cells ROW 56)).drew.setCells w.heap.size (i * 3) vs).drew).setCells w.heap.size ((i + 1) * 3) (cs.drop (i * 3)) := by
  have u3 := run_underlying Try.underlying3; have u24 := run_underlying Try.underlying25
  have mixed : Try.prog.follows .mixedOrders = true := by kernel_rfl
  have hz2 : ¬ ((i : Int) = (n : Int)) := by omega
  have hz3 : (c : Int) < (n : Int) + 1 := by omega
  have hbw : b < w.heap.size := block_lt_of_cell (hcs 0 _ (List.getElem?_eq_getElem (by omega)))
  have hvw : vb < w.heap.size := block_lt_of_cell (hvs 0 _ (List.getElem?_eq_getElem (by omega)))
  have hkk : (n : Int) + 1 - (i : Int) = ((n + 1 - i : Nat) : Int) := by omega
  have hik : i + (n + 1 - i) = n + 1 := by omega
  have hold : (Builtin.firstCells iE.size i (.slice (some ⟨b, off, none⟩) i c)).run Try.prog w.drew = .ok (cs.take (i * 3)).toArray w.drew := by
    rw [iE_size]
    exact run_firstCells_some w.drew 3 i ⟨b, off, none⟩ i c (cs.take (i * 3)) (by rw [List.length_take]; omega) (fun j v hj => by
      rw [Addr.add_lit]
      rw [List.getElem?_take] at hj
      split at hj
      · exact hcs j v hj
      · cases hj)
  have hrz : ∀ ty, (Builtin.append_ #[25, 3] ty #[.slice (some ⟨b, off, none⟩) i c, .int .i64 ((n : Int) + 1 - (i : Int))]).run Try.prog w =
      .ok (.slice (some ⟨w.heap.size, 0, none⟩) (n + 1) (grownCap w (n + 1) c 56)) (w.drew.alloc (.cells ((cs.take (i * 3)).toArray ++ Builtin.zeroCells (Value.agg #[.int .i64 0, .int .i64 0, .int .i64 0]).cells (n + 1 - i) ++ Builtin.zeroCells (Value.agg #[.int .i64 0, .int .i64 0, .int .i64 0]).cells (grownCap w (n + 1) c 56 - (n + 1))) 56)) := fun ty => by
    have h := Lib.run_append_grow_zeros w 25 3 ty 56 iE _ .i64 .i64 Try.underlying25 Try.underlying3 iE_eq iE_zero (some ⟨b, off, none⟩) i c (cs.take (i * 3)) hold (n + 1 - i) (by omega) (by rw [iE_size]; omega) (by omega) (by omega) (by rw [iE_bytes]; omega) (by rw [iE_bytes, hik]; exact growslice_fits hroom (by omega))
    rw [hik] at h
    rw [hkk]
    exact h
  obtain ⟨G, hG⟩ : ∃ G, G = grownCap w (n + 1) c 56 := ⟨_, rfl⟩
  obtain ⟨ROW, hROW⟩ : ∃ ROW : Array Value, ROW = (cs.take (i * 3)).toArray ++ Builtin.zeroCells (Value.agg #[.int .i64 0, .int .i64 0, .int .i64 0]).cells (n + 1 - i) ++ Builtin.zeroCells (Value.agg #[.int .i64 0, .int .i64 0, .int .i64 0]).cells (G - (n + 1)) := ⟨_, rfl⟩
  have hGn : n + 1 ≤ G := by rw [hG]; exact grownCap_ge w _ _ _
  have hGm : G ≤ maxLen := by rw [hG]; exact grownCap_le_maxLen w (n + 1) c 56 (by unfold maxLen; omega)
  have hRs : ROW.size = G * 3 := by
    rw [hROW]
    simp [Builtin.zeroCells, Value.cells, hcl]
    omega
  have hRt : ∀ j v, (cs.take (i * 3))[j]? = some v → ROW[j]? = some v := fun j v hj => by
    rw [hROW, Array.append_assoc]
    have hl := (List.getElem?_eq_some_iff.1 hj).1
    rw [Array.getElem?_append_left (by simpa using hl)]
    simpa using hj
  rw [← hG] at hrz
  rw [← hROW] at hrz
  have hRl : (n + 1) * 3 ≤ ROW.size := by omega
  obtain ⟨W1, hW1⟩ : ∃ W1, W1 = w.drew.alloc (.cells ROW 56) := ⟨_, rfl⟩
  rw [← hW1] at hrz
  have hN : ∀ j, j < (n + 1) * 3 → (W1.cell? ⟨w.heap.size, j, none⟩).isSome = true := fun j hj => by
    rw [hW1, World.cell?_alloc_at (w := w.drew) ROW _ w.heap.size j rfl, Array.getElem?_eq_getElem (by omega)]; rfl
  have hNf : ∀ j, W1.frozen? ⟨w.heap.size, j, none⟩ = false := fun j => by rw [hW1]; exact World.frozen?_alloc_at (w := w.drew) ROW _ w.heap.size j rfl
  have hOb : ∀ j v, w.cell? ⟨b, j, none⟩ = some v → W1.cell? ⟨b, j, none⟩ = some v := fun j v h => by rw [hW1, World.cell?_alloc_past (w := w.drew) _ b j hbw]; exact h
  have hOv : ∀ j v, w.cell? ⟨vb, j, none⟩ = some v → W1.cell? ⟨vb, j, none⟩ = some v := fun j v h => by rw [hW1, World.cell?_alloc_past (w := w.drew) _ vb j hvw]; exact h
  have hcpA : ∀ (W : World), (∀ x, W.cell? x = W1.cell? x) → (∀ x, W.frozen? x = W1.frozen? x) → ∀ ty dc, (Builtin.copy_ #[25, 25] ty #[.slice (some ⟨w.heap.size, i * 3, none⟩) (n + 1 - i) dc, .slice (some ⟨vb, voff, none⟩) 1 vc]).run Try.prog W = .ok (goInt (Nat.min 1 (n + 1 - i))) (W.setCells w.heap.size (i * 3) vs) := fun W hWc hWf ty dc =>
    run_copy_k W _ _ ty 56 w.heap.size (i * 3) (n + 1 - i) dc ⟨vb, voff, none⟩ 1 vc 3 vs Try.underlying25 hszE (by rw [hvl]; simp only [Nat.min_def]; split <;> omega)
      (fun j v hj => by rw [Addr.add_lit, hWc]; exact hOv _ v (hvs j v hj))
      (fun j hj => by rw [hWc]; exact hN _ (by omega)) (fun j hj => by rw [hWf]; exact hNf _) h1v
  have hG63 : G ≤ 9223372036854775807 := by unfold maxLen at hGm; omega
  have hGi : ¬ (G = i) := by omega
  have hGim : ¬ (G = i + 1) := by omega
  have hci : ¬ (c = i) := by omega
  have hbN : b ≠ w.heap.size := by omega
  have hdl : (cs.drop (i * 3)).length = (n - i) * 3 := by rw [List.length_drop, hcl]; omega
  have hcpB : ∀ (W : World), (∀ x, W.cell? x = (W1.setCells w.heap.size (i * 3) vs).cell? x) → (∀ x, W.frozen? x = (W1.setCells w.heap.size (i * 3) vs).frozen? x) → ∀ ty dc sc, (Builtin.copy_ #[25, 25] ty #[.slice (some ⟨w.heap.size, (i + 1) * 3, none⟩) (n + 1 - (i + 1)) dc, .slice (some ⟨b, off + i * 3, none⟩) (n - i) sc]).run Try.prog W = .ok (goInt (Nat.min (n - i) (n + 1 - (i + 1)))) (W.setCells w.heap.size ((i + 1) * 3) (cs.drop (i * 3))) := fun W hWc hWf ty dc sc =>
    run_copy_k W _ _ ty 56 w.heap.size ((i + 1) * 3) (n + 1 - (i + 1)) dc ⟨b, off + i * 3, none⟩ (n - i) sc 3 (cs.drop (i * 3)) Try.underlying25 hszE (by rw [hdl]; simp only [Nat.min_def]; split <;> omega)
      (fun j v hj => by
        rw [Addr.add_lit, hWc, World.cell?_setCells_out _ _ _ _ _ (fun h _ => absurd h hbN), Nat.add_assoc]
        exact hOb _ v (hcs (i * 3 + j) v (by rwa [List.getElem?_drop] at hj)))
      (fun j hj => by rw [hWc]; exact isSome_setCells _ _ _ _ (fun t ht => hN _ (by omega)) _ (hN _ (by omega)))
      (fun j hj => by rw [hWf, World.frozen?_setCells]; exact hNf _) (fun v hv => h1c v (List.mem_of_mem_drop hv))
  subst hW1
  have hE1 : ∀ x, ((w.alloc (.cells ROW 56)).drew).cell? x = (w.drew.alloc (.cells ROW 56)).cell? x := fun x => rfl
  have hE2 : ∀ x, ((w.alloc (.cells ROW 56)).drew).frozen? x = (w.drew.alloc (.cells ROW 56)).frozen? x := fun x => rfl
  have hF1 : ∀ x, (((w.alloc (.cells ROW 56)).drew.setCells w.heap.size (i * 3) vs).drew).cell? x = ((w.drew.alloc (.cells ROW 56)).setCells w.heap.size (i * 3) vs).cell? x := fun x => rfl
  have hF2 : ∀ x, (((w.alloc (.cells ROW 56)).drew.setCells w.heap.size (i * 3) vs).drew).frozen? x = ((w.drew.alloc (.cells ROW 56)).setCells w.heap.size (i * 3) vs).frozen? x := fun x => rfl
  have hw1 : IntKind.i64.wrap ((i : Int) + 1) = (i : Int) + 1 := by rw [IntKind.wrap_i64]; omega
  have hw2 : IntKind.i64.wrap ((n : Int) + 1) = (n : Int) + 1 := by rw [IntKind.wrap_i64]; omega
  have hb1 : (0 : Int) ≤ (i : Int) + 1 := by omega
  have hin : i ≤ n := by omega
  have htn : ((i : Int) + 1).toNat = i + 1 := by omega
  have hb3 : (i : Int) ≤ (n : Int) := by omega
  clear hkk hik hold hROW hG hRl
  go_enter Try.func62, Try.ntmps62
  go_wp2_with (first
    | (at_builtin; refine Lib.wpList_append_run _ rfl _ _ _ _ rfl _ _ rfl rfl _ _ (hrz _) ?_)
    | (at_builtin; refine wpList_copy_runI _ rfl _ _ 25 25 rfl _ _ rfl rfl (hcpA _ hE1 hE2 _ _) ?_)
    | (at_builtin; refine wpList_copy_runI _ rfl _ _ 25 25 rfl _ _ rfl rfl (hcpB _ (fun _ => rfl) (fun _ => rfl) _ _ _) ?_))
  go_region_law_o (refine step_copy_runI rfl _ _ 25 25 rfl (.slice (some ⟨w.heap.size, (i + 1) * 3, none⟩) (n + 1 - (i + 1)) (G - (i + 1))) (.slice (some ⟨b, off + i * 3, none⟩) (n - i) (c - i)) (by simp [Act.eval, Act.put]) (by simp [Act.eval, Act.put]) (hcpB _ hF1 hF2 3 (G - (i + 1)) (c - i)) ?_)
  go_wp2
  go_ret
  exact ⟨G, ROW, rfl, hGn, hGm, hRs, hRt, rfl⟩
end Go.Proofs.Ytaoondlakhocnaa
end
section
set_option linter.unusedVariables false
set_option linter.unusedSimpArgs false
namespace Go.Am
open Go
variable {φ : Phi} {I : Nat → Prop} {w : World} {H : Heap} {lim : Nat}
def rowPut (C : Array Value) (o : Nat) (vs : List Value) : Array Value := (C.toList.take o ++ vs ++ C.toList.drop (o + vs.length)).toArray
theorem rowPut_size {C : Array Value} {o : Nat} {vs : List Value} (h : o + vs.length ≤ C.size) : (rowPut C o vs).size = C.size := by
  unfold rowPut
  simp
  omega
theorem rowPut_get {C : Array Value} {o : Nat} {vs : List Value} (h : o + vs.length ≤ C.size) (i : Nat) : (rowPut C o vs)[i]? = if i < o then C[i]? else if i < o + vs.length then vs[i - o]? else C[i]? := by
  unfold rowPut
  simp only [List.getElem?_toArray, List.append_assoc, List.getElem?_append, List.length_take, List.getElem?_take, List.getElem?_drop, Array.length_toList]
  have e3 : min o C.size = o := by omega
  rw [e3]
  by_cases h1 : i < o
  · rw [if_pos h1, if_pos h1, if_pos h1]; simp
  · rw [if_neg h1, if_neg h1]
    by_cases h2 : i < o + vs.length
    · rw [if_pos (by omega), if_pos h2]
    · rw [if_neg (by omega), if_neg h2]
      rw [show o + vs.length + (i - o - vs.length) = i by omega]
      simp
theorem cell_row {w : World} {g : Nat} {C : Array Value} {T : TypeId} (hg : w.heap[g]? = some (.cells C T (0, 0))) (j : Nat) : w.cell? ⟨g, j, none⟩ = C[j]? := by
  simp [World.cell?, hg]
theorem frozen_row {w : World} {g : Nat} {C : Array Value} {T : TypeId} (hg : w.heap[g]? = some (.cells C T (0, 0))) (j : Nat) : w.frozen? ⟨g, j, none⟩ = false := by
  simp [World.frozen?, hg]
theorem setCells_row {w : World} {g o : Nat} {C : Array Value} {T : TypeId} {vs : List Value} (hg : w.heap[g]? = some (.cells C T (0, 0))) (h : o + vs.length ≤ C.size) (h1 : ∀ v ∈ vs, v.oneCell' = true) : w.setCells g o vs = w.setRow g (rowPut C o vs) := by
  have a := run_storeCells_cells (P := default) g o vs 0 w (fun j hj => by rw [Nat.add_zero, cell_row hg, Array.getElem?_eq_getElem (by omega)]; rfl) (fun j hj => frozen_row hg _) h1
  have b := run_storeCells_at default g o T vs 0 C w hg (by simpa using h) h1
  rw [Nat.add_zero] at a b
  rw [a] at b
  unfold rowPut
  injection b
/-- Two rows written into one block. -/
theorem wrote_two [Dn] {w w1 : World} {g o o2 : Nat} {C : Array Value} {T : TypeId} {vs us : List Value} (hd : w1 = w.drew) (hg : w.heap[g]? = some (.cells C T (0, 0))) (h : o + vs.length ≤ C.size) (h2 : o2 + us.length ≤ C.size) (h1 : ∀ v ∈ vs, v.oneCell' = true) (h3 : ∀ v ∈ us, v.oneCell' = true) :
    ∃ w', (w1.setCells g o vs).setCells g o2 us = w' ∧ Wrote w w' g (rowPut (rowPut C o vs) o2 us) T := by
  subst hd
  have hg1 : w.drew.heap[g]? = some (.cells C T (0, 0)) := hg
  refine ⟨_, rfl, ?_⟩
  rw [setCells_row hg1 h h1]
  have hg2 := setRow_heap w.drew g C (rowPut C o vs) T (0, 0) hg1
  rw [setCells_row hg2 (by rw [rowPut_size h]; exact h2) h3]
  exact ⟨setRow_heap _ g _ _ T (0, 0) hg2, fun i hi => (setRow_other _ g i _ hi).trans (setRow_other _ g i _ hi), (size_setRow _ g _).trans (size_setRow _ g _), rfl, ⟨rfl, fun _ => Nat.le_succ _⟩, rfl⟩
end Go.Am
namespace Go.Proofs.Ytaoondlakhocnaa
open Go Go.Am Go.RowKit
def insV : Nat → List AV → Heap → Option (AV × Heap)
  | lim, [.own 3 b 0 n, .v (.int .i64 i), .own 3 b2 0 1], H =>
    match hget H b, hget H b2 with
    | some k, some v => if lim ≤ b ∧ b ≠ b2 ∧ 0 ≤ i ∧ i ≤ n ∧ 1 ≤ n ∧ n ≤ 100000 ∧ k.length = n * 3 ∧ v.length = 3 ∧ k.all storable = true ∧ v.all storable = true then
        some (.own 3 H.length 0 (n + 1), hset H b none ++ [some (k.take (i.toNat * 3) ++ v ++ k.drop (i.toNat * 3))]) else none
    | _, _ => none
  | _, _, _ => none
theorem named62 : Named Try.prog 62 := ⟨Try.f62, Try.func62, by kernel_rfl, by kernel_rfl⟩
section
variable [Dn] {φ : Phi} {I : Nat → Prop} {w : World} {H : Heap} {lim : Nat}
/-- What a block of the call's own holds, as values. -/
theorem own_vals (hR : Rel lim φ I w H) {b n : Nat} {k : Blk} (hk : hget H b = some k) (hl : k.length = n * 3) (h0 : 0 < n) (hst : k.all storable = true) {x : Value} (hx : Den φ I w (.own 3 b 0 n) x) :
    ∃ (c : Nat) (L : Am.Loc) (C : Array Value) (T : TypeId) (cs : List Value), x = .slice (some ⟨L.k, L.base, none⟩) n c ∧ φ[b]? = some (some L) ∧ n ≤ c ∧ c ≤ maxLen ∧ L.base + c * 3 ≤ L.S ∧ w.heap[L.k]? = some (.cells C T (0, 0)) ∧ C.size = L.S ∧
      cs.length = n * 3 ∧ (∀ (j : Nat) (v : Value), cs[j]? = some v → C[L.base + j]? = some v) ∧ (∀ (j : Nat) (x : AV) (v : Value), k[j]? = some x → cs[j]? = some v → Den φ I w x v) ∧ ∀ v ∈ cs, v.oneCell' = true := by
  cases hx with
  | own0 => omega
  | own _ _ _ _ c off L hL hnc hc ho =>
    have ho2 : off = L.base + 0 ∧ off + c * 3 ≤ L.S := by rcases ho with h | h <;> omega
    obtain ⟨rfl, ho3⟩ := ho2
    rcases hR.blk b k hk with ⟨h2, _⟩ | ⟨L', C, T, h2, hC, hS, hO⟩
    · rw [hL] at h2; cases h2
    · obtain rfl : L = L' := by rw [hL] at h2; cases h2; rfl
      obtain ⟨cs, n1, n2⟩ := exists_list (n := n * 3) (p := fun j y => C[L.base + j]? = some y ∧ ∀ x, k[j]? = some x → Den φ I w x y) (fun j hj => by
        obtain ⟨y, g1, g2⟩ := hO.2 j (k[j]'(by omega)) (List.getElem?_eq_getElem _)
        exact ⟨y, g1, fun x hx => by rw [List.getElem?_eq_getElem (by omega)] at hx; cases hx; exact g2⟩)
      refine ⟨c, L, C, T, cs, rfl, hL, hnc, hc, ho3, hC, hS, n1, fun j v hv => (n2 j v hv).1, fun j x v hx hv => (n2 j v hv).2 x hx, fun v hv => ?_⟩
      obtain ⟨j, hj, rfl⟩ := List.getElem_of_mem hv
      have hj' : j < k.length := by omega
      exact (storable_sound (List.all_eq_true.1 hst _ (List.getElem_mem hj')) ((n2 j _ (List.getElem?_eq_getElem hj)).2 _ (List.getElem?_eq_getElem hj'))).1
theorem ins_calls (hR : Rel lim φ I w H) {b b2 n : Nat} {i : Nat} {k v : Blk} (hb : hget H b = some k) (hb2 : hget H b2 = some v) (hlim : lim ≤ b) (hne : b ≠ b2) (hi : i ≤ n) (h1 : 1 ≤ n) (h2 : n ≤ 100000) (hk : k.length = n * 3) (hv : v.length = 3) (hsk : k.all storable = true) (hsv : v.all storable = true)
    {x y : Value} (hx : Den φ I w (.own 3 b 0 n) x) (hy : Den φ I w (.own 3 b2 0 1) y) :
    Calls Try.prog 62 #[x, .int .i64 i, y] w (CallPost lim φ I w (hset H b none ++ [some (k.take (i * 3) ++ v ++ k.drop (i * 3))]) (.own 3 H.length 0 (n + 1))) := by
  by_cases hin : i = n
  · subst hin
    have ha : appendV Try.prog lim H 25 (.own 3 b 0 i) (.own 3 b2 0 1) = some (.own 3 H.length 0 (i + 1), hset H b none ++ [some (k.take (i * 3) ++ v ++ k.drop (i * 3))]) := by
      simp only [appendV, tk25, ty56, srcCells, hb, hb2]
      rw [if_pos (by omega)]
      simp only [List.drop_zero]
      rw [if_pos ⟨rfl, by decide, by rw [List.take_of_length_le (by omega)]; exact hsv⟩, if_pos ⟨hlim, trivial, by omega, by omega, by omega⟩]
      rw [List.take_of_length_le (l := v) (by omega), List.drop_of_length_le (by omega), List.append_nil]
    obtain ⟨c2, L2, C2, T2, vs, rfl, _⟩ := own_vals hR hb2 (n := 1) (by omega) (by omega) hsv hy
    obtain ⟨c, L, C, T, cs, rfl, _, hnc, hcm, _⟩ := own_vals hR hb hk (by omega) hsk hx
    obtain ⟨z, φ', w', hrun, hd, hr, he⟩ := append_sound hR (ot := 0) ha hx hy
    refine (ins_end L.k L.base i c hnc (by unfold maxLen at hcm; omega) _ w (z := z) (w2 := w') L2.k L2.base c2 rfl (fun ty => ?_)).mono ?_
    · have e : ∀ t1 t2 : TypeId, Builtin.append_ #[25, 25] t1 = Builtin.append_ #[25, 25] t2 := fun _ _ => rfl
      rw [e ty 0]
      exact hrun
    · rintro e w2 ⟨rfl, rfl⟩
      exact ⟨_, φ', I, rfl, hd, hr, he⟩
  · obtain ⟨c2, L2, C2, T2, vs, rfl, hL2, hnc2, hcm2, hf2, hg2, hS2, hvl, hvc, hvd, hv1⟩ := own_vals hR hb2 (n := 1) (by omega) (by omega) hsv hy
    obtain ⟨c, L, C, T, cs, rfl, hL, hnc, hcm, hf, hg, hS, hcl, hcc, hcd, hc1⟩ := own_vals hR hb hk (by omega) hsk hx
    have hkk : L2.k ≠ L.k := fun h => hne (hR.inj b b2 k v L L2 hb hb2 hL hL2 h.symm)
    have hlt := hR.disj b L hL
    have hnew : ∀ (j : Nat) (x : AV), (k.take (i * 3) ++ v ++ k.drop (i * 3))[j]? = some x → (j < i * 3 ∧ k[j]? = some x) ∨ (i * 3 ≤ j ∧ j < i * 3 + 3 ∧ v[j - i * 3]? = some x) ∨ (i * 3 + 3 ≤ j ∧ j < (n + 1) * 3 ∧ k[j - 3]? = some x) := by
      intro j x hj
      have hjl := (List.getElem?_eq_some_iff.1 hj).1
      simp only [List.length_append, List.length_take, List.length_drop] at hjl
      have e : min (i * 3) k.length = i * 3 := by omega
      simp only [List.append_assoc, List.getElem?_append, List.length_take, e, List.getElem?_take, List.getElem?_drop, hv] at hj
      by_cases h1 : j < i * 3
      · rw [if_pos h1, if_pos h1] at hj; exact .inl ⟨h1, hj⟩
      · rw [if_neg h1] at hj
        by_cases h2 : j - i * 3 < 3
        · rw [if_pos h2] at hj; exact .inr (.inl ⟨by omega, by omega, hj⟩)
        · rw [if_neg h2, show i * 3 + (j - i * 3 - 3) = j - 3 by omega] at hj
          exact .inr (.inr ⟨by omega, by omega, hj⟩)
    have hvs : ∀ (j : Nat) (u : Value), vs[j]? = some u → w.cell? ⟨L2.k, L2.base + j, none⟩ = some u := fun j u hu => by rw [cell_row hg2]; exact hvc j u hu
    have hcs : ∀ (j : Nat) (u : Value), cs[j]? = some u → w.cell? ⟨L.k, L.base + j, none⟩ = some u := fun j u hu => by rw [cell_row hg]; exact hcc j u hu
    have hdl : (cs.drop (i * 3)).length = (n - i) * 3 := by rw [List.length_drop, hcl]; omega
    have hd1 : ∀ u ∈ cs.drop (i * 3), u.oneCell' = true := fun u hu => hc1 u (List.mem_of_mem_drop hu)
    by_cases hroom : n + 1 ≤ c
    · have hfit : L.base + (n + 1) * 3 ≤ C.size := by have : (n + 1) * 3 ≤ c * 3 := Nat.mul_le_mul_right _ hroom; omega
      have hm := ins_shift L.k L.base n c i L2.k L2.base c2 cs vs w (by omega) hroom (by unfold maxLen at hcm; omega) hkk hcl hvl hcs (fun j hj => by rw [cell_row hg, Array.getElem?_eq_getElem (by omega)]; rfl) (fun j hj => frozen_row hg _) hvs hc1 hv1
        T2 T C2.size C.size (by simp [World.shape?, hg2]) (by simp [World.shape?, hg]) (by omega) (frozen_row hg2 _) (frozen_row hg2 _)
      refine hm.mono ?_
      rintro e w' ⟨rfl, rfl⟩
      obtain ⟨w', hw', hW⟩ := wrote_two (w := w) (w1 := w.drew) rfl hg (o := L.base + (i + 1) * 3) (o2 := L.base + i * 3) (vs := cs.drop (i * 3)) (us := vs) (by rw [hdl]; omega) (by omega) hd1 hv1
      rw [hw']
      have hs1 : (rowPut C (L.base + (i + 1) * 3) (cs.drop (i * 3))).size = C.size := rowPut_size (by rw [hdl]; omega)
      have hs2 : (rowPut (rowPut C (L.base + (i + 1) * 3) (cs.drop (i * 3))) (L.base + i * 3) vs).size = C.size := (rowPut_size (by rw [hs1]; omega)).trans hs1
      have hA := reid_sound hR hb hL hlim hW (hs2.trans hS) L.base (k' := k.take (i * 3) ++ v ++ k.drop (i * 3)) ⟨by rw [hs2]; simp; omega, fun j x hj => by
        rw [rowPut_get (by rw [hs1]; omega), rowPut_get (by rw [hdl]; omega), hdl]
        rcases hnew j x hj with ⟨h1, h2⟩ | ⟨h1, h2, h3⟩ | ⟨h1, h2, h3⟩
        · rw [if_pos (by omega)]
          rw [if_pos (by omega)]
          have hjl : j < cs.length := by omega
          exact ⟨cs[j], hcc j _ (List.getElem?_eq_getElem hjl), hcd j x _ h2 (List.getElem?_eq_getElem hjl)⟩
        · rw [if_neg (by omega), if_pos (by omega), show L.base + j - (L.base + i * 3) = j - i * 3 by omega]
          have hjl : j - i * 3 < vs.length := by omega
          exact ⟨vs[j - i * 3], List.getElem?_eq_getElem hjl, hvd _ x _ h3 (List.getElem?_eq_getElem hjl)⟩
        · rw [if_neg (by omega), if_neg (by omega), if_neg (by omega), if_pos (by omega), List.getElem?_drop, show i * 3 + (L.base + j - (L.base + (i + 1) * 3)) = j - 3 by omega]
          have hjl : j - 3 < cs.length := by omega
          exact ⟨cs[j - 3], List.getElem?_eq_getElem hjl, hcd _ x _ h3 (List.getElem?_eq_getElem hjl)⟩⟩
      refine ⟨_, _, I, rfl, ?_, hA.1, hA.2⟩
      exact .own _ _ _ _ c L.base ⟨L.k, L.base, L.S⟩ (by rw [← hR.len]; simp) hroom hcm (.inr ⟨rfl, hf⟩)
    · have hm := ins_grow L.k L.base n c i L2.k L2.base c2 cs vs w (by omega) hnc (by omega) h2 hcl hvl hcs hvs hc1 hv1
      refine hm.mono ?_
      rintro e w' ⟨G, ROW, rfl, hG1, hG2, hRs, hRt, rfl⟩
      have hfit : (n + 1) * 3 ≤ ROW.size := by rw [hRs]; exact Nat.mul_le_mul_right _ hG1
      have hg0 : (w.alloc (.cells ROW 56)).drew.heap[w.heap.size]? = some (.cells ROW 56 (0, 0)) := by
        show (w.heap.push (.cells ROW 56 (0, 0)))[w.heap.size]? = _
        simp
      have e1 := setCells_row hg0 (o := i * 3) (vs := vs) (by omega) hv1
      have hga := setRow_heap _ _ _ (rowPut ROW (i * 3) vs) _ _ hg0
      have hgb : ((w.alloc (.cells ROW 56)).drew.setRow w.heap.size (rowPut ROW (i * 3) vs)).drew.heap[w.heap.size]? = some (.cells (rowPut ROW (i * 3) vs) 56 (0, 0)) := hga
      have hs1 : (rowPut ROW (i * 3) vs).size = ROW.size := rowPut_size (by omega)
      have e2 := setCells_row hgb (o := (i + 1) * 3) (vs := cs.drop (i * 3)) (by rw [hdl]; omega) hd1
      have hs2 : (rowPut (rowPut ROW (i * 3) vs) ((i + 1) * 3) (cs.drop (i * 3))).size = ROW.size := (rowPut_size (by rw [hdl]; omega)).trans hs1
      rw [e1, e2]
      have hKill := kill_sound hR b
      have hA := alloc_sound (T := 56) hKill (C := rowPut (rowPut ROW (i * 3) vs) ((i + 1) * 3) (cs.drop (i * 3))) (cells := k.take (i * 3) ++ v ++ k.drop (i * 3))
        ⟨by rw [hs2]; simp; omega, fun j x hj => by
          rw [Nat.zero_add, rowPut_get (by rw [hdl]; omega), rowPut_get (by omega), hdl]
          rcases hnew j x hj with ⟨h1, h2⟩ | ⟨h1, h2, h3⟩ | ⟨h1, h2, h3⟩
          · rw [if_pos (by omega)]
            rw [if_pos (by omega)]
            have hjl : j < cs.length := by omega
            exact ⟨cs[j], hRt j _ (by rw [List.getElem?_take, if_pos h1]; exact List.getElem?_eq_getElem hjl), hcd j x _ h2 (List.getElem?_eq_getElem hjl)⟩
          · rw [if_pos (by omega), if_neg (by omega), if_pos (by omega)]
            have hjl : j - i * 3 < vs.length := by omega
            exact ⟨vs[j - i * 3], List.getElem?_eq_getElem hjl, hvd _ x _ h3 (List.getElem?_eq_getElem hjl)⟩
          · rw [if_neg (by omega), if_pos (by omega), List.getElem?_drop, show i * 3 + (j - (i + 1) * 3) = j - 3 by omega]
            have hjl : j - 3 < cs.length := by omega
            exact ⟨cs[j - 3], List.getElem?_eq_getElem hjl, hcd _ x _ h3 (List.getElem?_eq_getElem hjl)⟩⟩
        (w' := ((w.alloc (.cells ROW 56)).drew.setRow w.heap.size (rowPut ROW (i * 3) vs)).drew.setRow w.heap.size (rowPut (rowPut ROW (i * 3) vs) ((i + 1) * 3) (cs.drop (i * 3)))) (by
          apply Array.ext_getElem?
          intro q
          by_cases hq : q = w.heap.size
          · subst hq
            rw [setRow_heap _ _ _ _ _ _ hgb]
            simp
          · rw [setRow_other _ _ q _ hq]
            refine (setRow_other _ _ q _ hq).trans ?_
            show (w.heap.push _)[q]? = _
            simp [Array.getElem?_push, hq]) rfl ⟨rfl, fun _ => Nat.le_succ_of_le (Nat.le_succ _)⟩ rfl
      refine ⟨_, _, I, rfl, ?_, hA.1, hA.2⟩
      have hlen : (hset H b none).length = H.length := by simp [hset]
      exact .own _ _ _ _ G 0 ⟨w.heap.size, 0, (rowPut (rowPut ROW (i * 3) vs) ((i + 1) * 3) (cs.drop (i * 3))).size⟩ (by rw [← hR.len]; simp) hG1 hG2 (.inr ⟨rfl, by show 0 + G * 3 ≤ (rowPut (rowPut ROW (i * 3) vs) ((i + 1) * 3) (cs.drop (i * 3))).size; rw [hs2, hRs]; omega⟩)
theorem ins_eff {args : List AV} {r : AV} {H' : Heap} (hr : insV lim args H = some (r, H')) (hR : Rel lim φ I w H) {cs : Array Value} (hD : DL φ I w args cs) : Calls Try.prog 62 cs w (CallPost lim φ I w H' r) ∧ Named Try.prog 62 := by
  refine ⟨?_, named62⟩
  unfold insV at hr
  split at hr
  · rename_i H b n i b2
    split at hr
    · rename_i k v hb hb2
      split at hr
      · rename_i hk
        obtain ⟨g1, g2, g3, g4, g5, g6, g7, g8, g9, g10⟩ := hk
        cases hr
        obtain ⟨m, rfl⟩ : ∃ m : Nat, i = (m : Int) := ⟨i.toNat, by omega⟩
        obtain ⟨l⟩ := cs
        have hl : l.length = 3 := by simpa using hD.1
        match l, hl, hD with
        | [x, y, z], _, hD =>
          have h0 := hD.2 0 _ x rfl rfl
          have h1 := hD.2 1 _ y rfl rfl
          have h2 := hD.2 2 _ z rfl rfl
          have h1' := den_v h1
          subst h1'
          exact ins_calls hR hb hb2 g1 g2 (by omega) g5 g6 g7 g8 g9 g10 h0 h2
      · cases hr
    · cases hr
  · cases hr
end
end Go.Proofs.Ytaoondlakhocnaa
end
section
set_option linter.unusedVariables false
namespace Go.Proofs.Ytaoondlakhocnaa
open Go Go.Am
instance dnT : Dn := ⟨True⟩
def primF : FuncId → Option (List AV → Heap → Option AV) := fun _ => none
theorem prim_ok : ∀ f p, primF f = some p → ∀ args H r, p args H = some r → ∀ (lim : Nat) (φ : Phi) (I : Nat → Prop) (w : World) (cs : Array Value), Tb w → Rel lim φ I w H → DL φ I w args cs → CallW Try.prog f cs w (PurePost φ I w lim H r) := fun f p h => by cases h
def effF : FuncId → Option (Nat → List AV → Heap → Option (AV × Heap))
  | 62 => some insV
  | _ => none
theorem eff_ok : ∀ f p, effF f = some p → ∀ lim args H r H', p lim args H = some (r, H') → ∀ (φ : Phi) (I : Nat → Prop) (w : World) (cs : Array Value), Tb w → Rel lim φ I w H → DL φ I w args cs → Calls Try.prog f cs w (CallPost lim φ I w H' r) ∧ Named Try.prog f := by
  intro f p h lim args H r H' hr φ I w cs hT hR hD
  unfold effF at h
  split at h
  · cases h
    exact ins_eff hr hR hD
  · cases h
end Go.Proofs.Ytaoondlakhocnaa
end
section
set_option linter.unusedSimpArgs false
set_option linter.unusedVariables false
namespace Go.Proofs.Ytaoondlakhocnaa
open Go Go.Am
noncomputable def fns : FuncId → Option FnA
  | 3 => some fa3
  | 4 => some fa4
  | 5 => some fa5
  | 6 => some fa6
  | 7 => some fa7
  | 8 => some fa8
  | 9 => some fa9
  | 10 => some fa10
  | 11 => some fa11
  | 12 => some fa12
  | 13 => some fa13
  | 14 => some fa14
  | 15 => some fa15
  | 16 => some fa16
  | 17 => some fa17
  | 18 => some fa18
  | 19 => some fa19
  | 20 => some fa20
  | 21 => some fa21
  | 22 => some fa22
  | 23 => some fa23
  | 24 => some fa24
  | 25 => some fa25
  | 26 => some fa26
  | 27 => some fa27
  | 28 => some fa28
  | 29 => some fa29
  | 30 => some fa30
  | 31 => some fa31
  | 32 => some fa32
  | 33 => some fa33
  | 34 => some fa34
  | 35 => some fa35
  | 36 => some fa36
  | 37 => some fa37
  | 38 => some fa38
  | 39 => some fa39
  | 40 => some fa40
  | 41 => some fa41
  | 42 => some fa42
  | 43 => some fa43
  | 44 => some fa44
  | 45 => some fa45
  | 46 => some fa46
  | 47 => some fa47
  | 48 => some fa48
  | 49 => some fa49
  | 50 => some fa50
  | 51 => some fa51
  | 52 => some fa52
  | 53 => some fa53
  | 54 => some fa54
  | 55 => some fa55
  | 56 => some fa56
  | 57 => some fa57
  | 58 => some fa58
  | 59 => some fa59
  | 60 => some fa60
  | 61 => some fa61
  | 63 => some fa63
  | 64 => some fa64
  | 65 => some fa65
  | 66 => some fa66
  | 67 => some fa67
  | 70 => some fa70
  | _ => none

noncomputable def sig : Sig := { P := Try.prog, fns := fns, prim := primF, own := fun f => f == 61 || f == 62, fz := fun f => f == 16 || f == 19 || f == 24 || f == 34 || f == 36, eff := effF }

theorem fnOK3 : FnOK Try.prog sig.pure 3 fa3 := ⟨Try.func3, by kernel_rfl, fun c hc => by cases hc; kernel_rfl⟩
theorem fnOK4 : FnOK Try.prog sig.pure 4 fa4 := ⟨Try.func4, by kernel_rfl, fun c hc => by cases hc; kernel_rfl⟩
theorem fnOK5 : FnOK Try.prog sig.pure 5 fa5 := ⟨Try.func5, by kernel_rfl, fun c hc => by cases hc; kernel_rfl⟩
theorem fnOK6 : FnOK Try.prog sig.pure 6 fa6 := ⟨Try.func6, by kernel_rfl, fun c hc => by cases hc; kernel_rfl⟩
theorem fnOK7 : FnOK Try.prog sig.pure 7 fa7 := ⟨Try.func7, by kernel_rfl, fun c hc => by cases hc; kernel_rfl⟩
theorem fnOK8 : FnOK Try.prog sig.pure 8 fa8 := ⟨Try.func8, by kernel_rfl, fun c hc => by cases hc; kernel_rfl⟩
theorem fnOK9 : FnOK Try.prog sig.pure 9 fa9 := ⟨Try.func9, by kernel_rfl, fun c hc => by cases hc; kernel_rfl⟩
theorem fnOK10 : FnOK Try.prog sig.pure 10 fa10 := ⟨Try.func10, by kernel_rfl, fun c hc => by cases hc; kernel_rfl⟩
theorem fnOK11 : FnOK Try.prog sig.pure 11 fa11 := ⟨Try.func11, by kernel_rfl, fun c hc => by cases hc; kernel_rfl⟩
theorem fnOK12 : FnOK Try.prog sig.pure 12 fa12 := ⟨Try.func12, by kernel_rfl, fun c hc => by cases hc; kernel_rfl⟩
theorem fnOK13 : FnOK Try.prog sig.pure 13 fa13 := ⟨Try.func13, by kernel_rfl, fun c hc => by cases hc; kernel_rfl⟩
theorem fnOK14 : FnOK Try.prog sig.pure 14 fa14 := ⟨Try.func14, by kernel_rfl, fun c hc => by cases hc; kernel_rfl⟩
theorem fnOK15 : FnOK Try.prog sig.pure 15 fa15 := ⟨Try.func15, by kernel_rfl, fun c hc => by cases hc; kernel_rfl⟩
theorem fnOK16 : FnOK Try.prog sig.pure 16 fa16 := ⟨Try.func16, by kernel_rfl, fun c hc => by cases hc; kernel_rfl⟩
theorem fnOK17 : FnOK Try.prog sig.pure 17 fa17 := ⟨Try.func17, by kernel_rfl, fun c hc => by cases hc; kernel_rfl⟩
theorem fnOK18 : FnOK Try.prog sig.pure 18 fa18 := ⟨Try.func18, by kernel_rfl, fun c hc => by cases hc; kernel_rfl⟩
theorem fnOK19 : FnOK Try.prog sig.pure 19 fa19 := ⟨Try.func19, by kernel_rfl, fun c hc => by cases hc; kernel_rfl⟩
theorem fnOK20 : FnOK Try.prog sig.pure 20 fa20 := ⟨Try.func20, by kernel_rfl, fun c hc => by cases hc; kernel_rfl⟩
theorem fnOK21 : FnOK Try.prog sig.pure 21 fa21 := ⟨Try.func21, by kernel_rfl, fun c hc => by cases hc; kernel_rfl⟩
theorem fnOK22 : FnOK Try.prog sig.pure 22 fa22 := ⟨Try.func22, by kernel_rfl, fun c hc => by cases hc; kernel_rfl⟩
theorem fnOK23 : FnOK Try.prog sig.pure 23 fa23 := ⟨Try.func23, by kernel_rfl, fun c hc => by cases hc; kernel_rfl⟩
theorem fnOK24 : FnOK Try.prog sig.pure 24 fa24 := ⟨Try.func24, by kernel_rfl, fun c hc => by cases hc; kernel_rfl⟩
theorem fnOK25 : FnOK Try.prog sig.pure 25 fa25 := ⟨Try.func25, by kernel_rfl, fun c hc => by cases hc; kernel_rfl⟩
theorem fnOK26 : FnOK Try.prog sig.pure 26 fa26 := ⟨Try.func26, by kernel_rfl, fun c hc => by cases hc; kernel_rfl⟩
theorem fnOK27 : FnOK Try.prog sig.pure 27 fa27 := ⟨Try.func27, by kernel_rfl, fun c hc => by cases hc; kernel_rfl⟩
theorem fnOK28 : FnOK Try.prog sig.pure 28 fa28 := ⟨Try.func28, by kernel_rfl, fun c hc => by cases hc; kernel_rfl⟩
theorem fnOK29 : FnOK Try.prog sig.pure 29 fa29 := ⟨Try.func29, by kernel_rfl, fun c hc => by cases hc; kernel_rfl⟩
theorem fnOK30 : FnOK Try.prog sig.pure 30 fa30 := ⟨Try.func30, by kernel_rfl, fun c hc => by cases hc; kernel_rfl⟩
theorem fnOK31 : FnOK Try.prog sig.pure 31 fa31 := ⟨Try.func31, by kernel_rfl, fun c hc => by cases hc; kernel_rfl⟩
theorem fnOK32 : FnOK Try.prog sig.pure 32 fa32 := ⟨Try.func32, by kernel_rfl, fun c hc => by cases hc; kernel_rfl⟩
theorem fnOK33 : FnOK Try.prog sig.pure 33 fa33 := ⟨Try.func33, by kernel_rfl, fun c hc => by cases hc; kernel_rfl⟩
theorem fnOK34 : FnOK Try.prog sig.pure 34 fa34 := ⟨Try.func34, by kernel_rfl, fun c hc => by cases hc; kernel_rfl⟩
theorem fnOK35 : FnOK Try.prog sig.pure 35 fa35 := ⟨Try.func35, by kernel_rfl, fun c hc => by cases hc; kernel_rfl⟩
theorem fnOK36 : FnOK Try.prog sig.pure 36 fa36 := ⟨Try.func36, by kernel_rfl, fun c hc => by cases hc; kernel_rfl⟩
theorem fnOK37 : FnOK Try.prog sig.pure 37 fa37 := ⟨Try.func37, by kernel_rfl, fun c hc => by cases hc; kernel_rfl⟩
theorem fnOK38 : FnOK Try.prog sig.pure 38 fa38 := ⟨Try.func38, by kernel_rfl, fun c hc => by cases hc; kernel_rfl⟩
theorem fnOK39 : FnOK Try.prog sig.pure 39 fa39 := ⟨Try.func39, by kernel_rfl, fun c hc => by cases hc; kernel_rfl⟩
theorem fnOK40 : FnOK Try.prog sig.pure 40 fa40 := ⟨Try.func40, by kernel_rfl, fun c hc => by cases hc; kernel_rfl⟩
theorem fnOK41 : FnOK Try.prog sig.pure 41 fa41 := ⟨Try.func41, by kernel_rfl, fun c hc => by cases hc; kernel_rfl⟩
theorem fnOK42 : FnOK Try.prog sig.pure 42 fa42 := ⟨Try.func42, by kernel_rfl, fun c hc => by cases hc; kernel_rfl⟩
theorem fnOK43 : FnOK Try.prog sig.pure 43 fa43 := ⟨Try.func43, by kernel_rfl, fun c hc => by cases hc; kernel_rfl⟩
theorem fnOK44 : FnOK Try.prog sig.pure 44 fa44 := ⟨Try.func44, by kernel_rfl, fun c hc => by cases hc; kernel_rfl⟩
theorem fnOK45 : FnOK Try.prog sig.pure 45 fa45 := ⟨Try.func45, by kernel_rfl, fun c hc => by cases hc; kernel_rfl⟩
theorem fnOK46 : FnOK Try.prog sig.pure 46 fa46 := ⟨Try.func46, by kernel_rfl, fun c hc => by cases hc; kernel_rfl⟩
theorem fnOK47 : FnOK Try.prog sig.pure 47 fa47 := ⟨Try.func47, by kernel_rfl, fun c hc => by cases hc; kernel_rfl⟩
theorem fnOK48 : FnOK Try.prog sig.pure 48 fa48 := ⟨Try.func48, by kernel_rfl, fun c hc => by cases hc; kernel_rfl⟩
theorem fnOK49 : FnOK Try.prog sig.pure 49 fa49 := ⟨Try.func49, by kernel_rfl, fun c hc => by cases hc; kernel_rfl⟩
theorem fnOK50 : FnOK Try.prog sig.pure 50 fa50 := ⟨Try.func50, by kernel_rfl, fun c hc => by cases hc; kernel_rfl⟩
theorem fnOK51 : FnOK Try.prog sig.pure 51 fa51 := ⟨Try.func51, by kernel_rfl, fun c hc => by cases hc; kernel_rfl⟩
theorem fnOK52 : FnOK Try.prog sig.pure 52 fa52 := ⟨Try.func52, by kernel_rfl, fun c hc => by cases hc; kernel_rfl⟩
theorem fnOK53 : FnOK Try.prog sig.pure 53 fa53 := ⟨Try.func53, by kernel_rfl, fun c hc => by cases hc; kernel_rfl⟩
theorem fnOK54 : FnOK Try.prog sig.pure 54 fa54 := ⟨Try.func54, by kernel_rfl, fun c hc => by cases hc; kernel_rfl⟩
theorem fnOK55 : FnOK Try.prog sig.pure 55 fa55 := ⟨Try.func55, by kernel_rfl, fun c hc => by cases hc; kernel_rfl⟩
theorem fnOK56 : FnOK Try.prog sig.pure 56 fa56 := ⟨Try.func56, by kernel_rfl, fun c hc => by cases hc; kernel_rfl⟩
theorem fnOK57 : FnOK Try.prog sig.pure 57 fa57 := ⟨Try.func57, by kernel_rfl, fun c hc => by cases hc; kernel_rfl⟩
theorem fnOK58 : FnOK Try.prog sig.pure 58 fa58 := ⟨Try.func58, by kernel_rfl, fun c hc => by cases hc; kernel_rfl⟩
theorem fnOK59 : FnOK Try.prog sig.pure 59 fa59 := ⟨Try.func59, by kernel_rfl, fun c hc => by cases hc; kernel_rfl⟩
theorem fnOK60 : FnOK Try.prog sig.pure 60 fa60 := ⟨Try.func60, by kernel_rfl, fun c hc => by cases hc; kernel_rfl⟩
theorem fnOK61 : FnOK Try.prog sig.pure 61 fa61 := ⟨Try.func61, by kernel_rfl, fun c hc => by cases hc; kernel_rfl⟩
theorem fnOK63 : FnOK Try.prog sig.pure 63 fa63 := ⟨Try.func63, by kernel_rfl, fun c hc => by cases hc; kernel_rfl⟩
theorem fnOK64 : FnOK Try.prog sig.pure 64 fa64 := ⟨Try.func64, by kernel_rfl, fun c hc => by cases hc; kernel_rfl⟩
theorem fnOK65 : FnOK Try.prog sig.pure 65 fa65 := ⟨Try.func65, by kernel_rfl, fun c hc => by cases hc; kernel_rfl⟩
theorem fnOK66 : FnOK Try.prog sig.pure 66 fa66 := ⟨Try.func66, by kernel_rfl, fun c hc => by cases hc; kernel_rfl⟩
theorem fnOK67 : FnOK Try.prog sig.pure 67 fa67 := ⟨Try.func67, by kernel_rfl, fun c hc => by cases hc; kernel_rfl⟩
theorem fnOK70 : FnOK Try.prog sig.pure 70 fa70 := ⟨Try.func70, by kernel_rfl, fun c hc => by cases hc; kernel_rfl⟩

theorem fns_ok : ∀ f fa, fns f = some fa → FnOK Try.prog sig.pure f fa := by
  intro f fa h
  unfold fns at h
  split at h <;> first | (cases h; done) | skip
  · cases h; exact fnOK3
  · cases h; exact fnOK4
  · cases h; exact fnOK5
  · cases h; exact fnOK6
  · cases h; exact fnOK7
  · cases h; exact fnOK8
  · cases h; exact fnOK9
  · cases h; exact fnOK10
  · cases h; exact fnOK11
  · cases h; exact fnOK12
  · cases h; exact fnOK13
  · cases h; exact fnOK14
  · cases h; exact fnOK15
  · cases h; exact fnOK16
  · cases h; exact fnOK17
  · cases h; exact fnOK18
  · cases h; exact fnOK19
  · cases h; exact fnOK20
  · cases h; exact fnOK21
  · cases h; exact fnOK22
  · cases h; exact fnOK23
  · cases h; exact fnOK24
  · cases h; exact fnOK25
  · cases h; exact fnOK26
  · cases h; exact fnOK27
  · cases h; exact fnOK28
  · cases h; exact fnOK29
  · cases h; exact fnOK30
  · cases h; exact fnOK31
  · cases h; exact fnOK32
  · cases h; exact fnOK33
  · cases h; exact fnOK34
  · cases h; exact fnOK35
  · cases h; exact fnOK36
  · cases h; exact fnOK37
  · cases h; exact fnOK38
  · cases h; exact fnOK39
  · cases h; exact fnOK40
  · cases h; exact fnOK41
  · cases h; exact fnOK42
  · cases h; exact fnOK43
  · cases h; exact fnOK44
  · cases h; exact fnOK45
  · cases h; exact fnOK46
  · cases h; exact fnOK47
  · cases h; exact fnOK48
  · cases h; exact fnOK49
  · cases h; exact fnOK50
  · cases h; exact fnOK51
  · cases h; exact fnOK52
  · cases h; exact fnOK53
  · cases h; exact fnOK54
  · cases h; exact fnOK55
  · cases h; exact fnOK56
  · cases h; exact fnOK57
  · cases h; exact fnOK58
  · cases h; exact fnOK59
  · cases h; exact fnOK60
  · cases h; exact fnOK61
  · cases h; exact fnOK63
  · cases h; exact fnOK64
  · cases h; exact fnOK65
  · cases h; exact fnOK66
  · cases h; exact fnOK67
  · cases h; exact fnOK70

theorem prim_own : ∀ f p, primF f = some p → sig.own f = false := by
  intro f p h
  cases h
theorem eff_own : ∀ f p, effF f = some p → sig.own f = true := by
  intro f p h
  unfold effF at h
  split at h <;> first | rfl | cases h
theorem sig_ok : SigOK sig := ⟨by kernel_rfl, fns_ok, fun f h => by
  have h := (show (f == 16 || f == 19 || f == 24 || f == 34 || f == 36) = true from h)
  simp only [Bool.or_eq_true, beq_iff_eq] at h
  rcases h with ((((rfl | rfl) | rfl) | rfl) | rfl) <;> rfl, fun f p h => ⟨prim_own f p h, prim_ok f p h⟩, fun f p h => ⟨eff_own f p h, eff_ok f p h⟩⟩
theorem sigP : sig.P = Try.prog := rfl
attribute [go_sem] sigP
end Go.Proofs.Ytaoondlakhocnaa
end
section
set_option linter.unusedSimpArgs false
set_option linter.unusedVariables false
set_option maxHeartbeats 40000000
set_option maxRecDepth 4000
namespace Go.Proofs.Ytaoondlakhocnaa
open Go Go.Am

abbrev rowAV (r : List Int) : AV := .sl r.length (r.map AV.i)
abbrev rowsAV (r : List (List Int)) : AV := .sl r.length (r.map rowAV)
def okN (n : Int) : Prop := 0 ≤ n ∧ n ≤ 10000
def SameLen (r : List (List Int)) : Prop := ∀ u, u < r.length → (gt r u).length = (gt r 0).length
def InRange (r : List (List Int)) : Prop := ∀ u, u < r.length → ∀ w, w < (gt r u).length → okN (gt (gt r u) w)
open Classical in
noncomputable def shapeS (r : List (List Int)) : Int :=
  if r.length < 2 ∨ (gt r 0).length = 0 then 1 else
  if 91 < r.length ∨ 10 < (gt r 0).length then 9 else
  if ¬ SameLen r then 1 else if ¬ InRange r then 2 else 0
def Zero0 (r : List (List Int)) : Prop := ∀ w, w < (gt r 0).length → gt (gt r 0) w = 0
open Classical in
noncomputable def endsS (r : List (List Int)) : Int :=
  if ¬ Zero0 r then 1 else if gt (gt r (r.length - 1)) 0 ≠ 10000 then 12 else 0
open Classical in
noncomputable def rawS (r : List (List Int)) : Int := if shapeS r ≠ 0 then shapeS r else endsS r
def Down (r : List (List Int)) : Prop := ∀ u, u < r.length → ∀ w, w < (gt r u).length → (0 < u → gt (gt r (u - 1)) w ≤ gt (gt r u) w) ∧ (w + 1 < (gt r u).length → gt (gt r u) (w + 1) ≤ gt (gt r u) w)
def Conc (r : List (List Int)) : Prop := ∀ u, u < r.length → 2 ≤ u → ∀ w, w < (gt r u).length → gt (gt r u) w - gt (gt r (u - 1)) w ≤ gt (gt r (u - 1)) w - gt (gt r (u - 2)) w
open Classical in
noncomputable def checkS (r : List (List Int)) : Int := if shapeS r ≠ 0 then shapeS r else if endsS r ≠ 0 then endsS r else if ¬ Down r then 8 else if ¬ Conc r then 13 else 0
/-- What a table without an error of its shape is. -/
structure Shaped (r : List (List Int)) : Prop where
  two : 2 ≤ r.length
  most : r.length ≤ 91
  one : 0 < (gt r 0).length
  ten : (gt r 0).length ≤ 10
  len : SameLen r
  rng : InRange r
theorem shaped_of {r : List (List Int)} (h : shapeS r = 0) : Shaped r := by
  unfold shapeS at h
  split at h
  · cases h
  · split at h
    · cases h
    · split at h
      · cases h
      · split at h
        · cases h
        · rename_i h1 h2 h3 h4
          exact ⟨by omega, by omega, by omega, by omega, Classical.not_not.mp h3, Classical.not_not.mp h4⟩
theorem Shaped.lenU {r : List (List Int)} (h : Shaped r) {u : Nat} (hu : u < r.length) : (gt r u).length = (gt r 0).length := h.len u hu

abbrev Tb := List (List Int)
theorem raw_zero {r : Tb} (h : rawS r = 0) : shapeS r = 0 ∧ endsS r = 0 := by
  unfold rawS at h
  split at h
  · rename_i h1; exact absurd h h1
  · rename_i h1; exact ⟨Classical.not_not.mp h1, h⟩
theorem raw_check {r : Tb} (h : rawS r ≠ 0) : rawS r = checkS r := by
  unfold rawS checkS
  unfold rawS at h
  split
  · rfl
  · rename_i h1
    rw [if_neg h1] at h
    rw [if_pos h]

abbrev lc_overs_ok (a b c : AV) : Env := [(0,a),(1,b),(2,c)]
theorem overs_ok (lim : Nat) (H : Heap) (rows : Tb) (h91 : rows.length ≤ 91) (h2 : 2 ≤ rows.length) :
    ACall sig lim 56 [.agg [rowsAV rows]] H fun r H' => r = AV.i ((rows.length : Int) - 1) ∧ H' = H := by
 refine ACall_pure (fa := fa56) rfl rfl rfl rfl ?_
 have tr : ∀ a0 : AV, env0 fa56.keep [a0] = [(0,a0),(1,.any),(2,.any)] := fun a0 => rfl
 refine W_to (tr _) ?_; clear tr
 refine at_seq rfl ?_
 refine rg rfl ?_
 refine R_box rfl (by simp (disch := first | omega | (simp only [List.length_map, List.length_append, List.length_set, List.length_cons, List.length_nil]; omega)) only [go_sem, ↓reduceIte, Nat.reduceEqDiff, reduceCtorEq] <;> rfl) rfl rfl ?_
 refine Rq ?_
 have tr : ∀ a b c d e : AV, let l := lc_overs_ok a b c; trim ((2,e)::(1,d)::l) l = [(0,a),(1,d),(2,e)] := by intros; rfl
 refine R_nil (tr ..) ?_; clear tr
 refine then_n ?_
 refine at_seq rfl ?_
 refine rg rfl ?_
 refine Rq ?_
 refine Rq ?_
 refine Rq ?_
 refine Rq ?_
 refine Rq ?_
 refine Rq ?_
 have tr : ∀ a b c d e f g h i : AV, let l := lc_overs_ok a b c; trim ((2,i)::(7,h)::(6,g)::(5,f)::(4,e)::(3,d)::l) l = [(0,a),(1,b),(2,i)] := by intros; rfl
 refine R_nil (tr ..) ?_; clear tr
 refine then_n ?_
 refine at_ret rfl ?_
 refine fpure ?_
 refine ⟨?_, rfl⟩
 congr 2
 omega

abbrev lc_rovers_ok (a b c : AV) : Env := [(0,a),(1,b),(2,c)]
theorem rovers_ok (lim : Nat) (H : Heap) (rows : Tb) (h91 : rows.length ≤ 91) (h2 : 2 ≤ rows.length) :
    ACall sig lim 59 [.agg [rowsAV rows]] H fun r H' => r = AV.i ((rows.length : Int) - 1) ∧ H' = H := by
 refine ACall_pure (fa := fa59) rfl rfl rfl rfl ?_
 have tr : ∀ a0 : AV, env0 fa59.keep [a0] = [(0,a0),(1,.any),(2,.any)] := fun a0 => rfl
 refine W_to (tr _) ?_; clear tr
 refine at_seq rfl ?_
 refine rg rfl ?_
 refine R_box rfl (by simp (disch := first | omega | (simp only [List.length_map, List.length_append, List.length_set, List.length_cons, List.length_nil]; omega)) only [go_sem, ↓reduceIte, Nat.reduceEqDiff, reduceCtorEq] <;> rfl) rfl rfl ?_
 refine Rq ?_
 have tr : ∀ a b c d e : AV, let l := lc_rovers_ok a b c; trim ((2,e)::(1,d)::l) l = [(0,a),(1,d),(2,e)] := by intros; rfl
 refine R_nil (tr ..) ?_; clear tr
 refine then_n ?_
 refine at_seq rfl ?_
 refine rg rfl ?_
 refine Rq ?_
 refine Rq ?_
 refine Rq ?_
 refine Rq ?_
 refine Rq ?_
 refine Rq ?_
 have tr : ∀ a b c d e f g h i : AV, let l := lc_rovers_ok a b c; trim ((2,i)::(7,h)::(6,g)::(5,f)::(4,e)::(3,d)::l) l = [(0,a),(1,b),(2,i)] := by intros; rfl
 refine R_nil (tr ..) ?_; clear tr
 refine then_n ?_
 refine at_ret rfl ?_
 refine fpure ?_
 refine ⟨?_, rfl⟩
 congr 2
 omega

abbrev lc_wickets_ok (a b c d : AV) : Env := [(0,a),(1,b),(2,c),(6,d)]
theorem wickets_ok (lim : Nat) (H : Heap) (rows : Tb) (h2 : 2 ≤ rows.length) :
    ACall sig lim 57 [.agg [rowsAV rows]] H fun r H' => r = AV.i (gt rows 0).length ∧ H' = H := by
 refine ACall_pure (fa := fa57) rfl rfl rfl rfl ?_
 have tr : ∀ a0 : AV, env0 fa57.keep [a0] = [(0,a0),(1,.any),(2,.any),(6,.any)] := fun a0 => rfl
 refine W_to (tr _) ?_; clear tr
 refine at_seq rfl ?_
 refine rg rfl ?_
 refine R_box rfl (by simp (disch := first | omega | (simp only [List.length_map, List.length_append, List.length_set, List.length_cons, List.length_nil]; omega)) only [go_sem, ↓reduceIte, Nat.reduceEqDiff, reduceCtorEq] <;> rfl) rfl rfl ?_
 refine Rq ?_
 have tr : ∀ a b c d e f : AV, let l := lc_wickets_ok a b c d; trim ((2,f)::(1,e)::l) l = [(0,a),(1,e),(2,f),(6,d)] := by intros; rfl
 refine R_nil (tr ..) ?_; clear tr
 refine then_n ?_
 refine at_seq rfl ?_
 refine at_seq rfl ?_
 refine rg rfl ?_
 refine Rq ?_
 refine Rq ?_
 refine Rq ?_
 refine Rq ?_
 have tr : ∀ a b c d e f g h : AV, let l := lc_wickets_ok a b c d; trim ((6,h)::(5,g)::(4,f)::(3,e)::l) l = [(0,a),(1,b),(2,c),(6,h)] := by intros; rfl
 refine R_nil (tr ..) ?_; clear tr
 refine then_n ?_
 refine cdd (fun h1 => ?_) (fun h1 => ?_)
 ·
  try simp only [decide_eq_true_eq, decide_eq_false_iff_not, Bool.not_eq_true', Bool.not_eq_false', beq_iff_eq, beq_eq_false_iff_ne, ne_eq] at h1
  refine at_seq rfl ?_
  refine rg rfl ?_
  refine Rq ?_
  have tr : ∀ a b c d e : AV, let l := lc_wickets_ok a b c d; trim ((2,e)::l) l = [(0,a),(1,b),(2,e),(6,d)] := by intros; rfl
  refine R_nil (tr ..) ?_; clear tr
  refine then_n ?_
  refine at_ret rfl ?_
  refine then_r ?_
  exfalso; omega
 ·
  try simp only [decide_eq_true_eq, decide_eq_false_iff_not, Bool.not_eq_true', Bool.not_eq_false', beq_iff_eq, beq_eq_false_iff_ne, ne_eq] at h1
  refine at_skip rfl ?_
  refine then_n ?_
  refine at_seq rfl ?_
  refine rg rfl ?_
  refine Rq ?_
  refine Rq ?_
  refine Rq ?_
  refine Rq ?_
  refine Rq ?_
  refine Rq ?_
  have tr : ∀ a b c d e f g h i j : AV, let l := lc_wickets_ok a b c d; trim ((2,j)::(11,i)::(10,h)::(9,g)::(8,f)::(7,e)::l) l = [(0,a),(1,b),(2,j),(6,d)] := by intros; rfl
  refine R_nil (tr ..) ?_; clear tr
  refine then_n ?_
  refine at_ret rfl ?_
  refine fpure ?_
  exact ⟨rfl, rfl⟩

abbrev lc_rwickets_ok (a b c d : AV) : Env := [(0,a),(1,b),(2,c),(6,d)]
theorem rwickets_ok (lim : Nat) (H : Heap) (rows : Tb) (h2 : 2 ≤ rows.length) :
    ACall sig lim 60 [.agg [rowsAV rows]] H fun r H' => r = AV.i (gt rows 0).length ∧ H' = H := by
 refine ACall_pure (fa := fa60) rfl rfl rfl rfl ?_
 have tr : ∀ a0 : AV, env0 fa60.keep [a0] = [(0,a0),(1,.any),(2,.any),(6,.any)] := fun a0 => rfl
 refine W_to (tr _) ?_; clear tr
 refine at_seq rfl ?_
 refine rg rfl ?_
 refine R_box rfl (by simp (disch := first | omega | (simp only [List.length_map, List.length_append, List.length_set, List.length_cons, List.length_nil]; omega)) only [go_sem, ↓reduceIte, Nat.reduceEqDiff, reduceCtorEq] <;> rfl) rfl rfl ?_
 refine Rq ?_
 have tr : ∀ a b c d e f : AV, let l := lc_rwickets_ok a b c d; trim ((2,f)::(1,e)::l) l = [(0,a),(1,e),(2,f),(6,d)] := by intros; rfl
 refine R_nil (tr ..) ?_; clear tr
 refine then_n ?_
 refine at_seq rfl ?_
 refine at_seq rfl ?_
 refine rg rfl ?_
 refine Rq ?_
 refine Rq ?_
 refine Rq ?_
 refine Rq ?_
 have tr : ∀ a b c d e f g h : AV, let l := lc_rwickets_ok a b c d; trim ((6,h)::(5,g)::(4,f)::(3,e)::l) l = [(0,a),(1,b),(2,c),(6,h)] := by intros; rfl
 refine R_nil (tr ..) ?_; clear tr
 refine then_n ?_
 refine cdd (fun h1 => ?_) (fun h1 => ?_)
 ·
  try simp only [decide_eq_true_eq, decide_eq_false_iff_not, Bool.not_eq_true', Bool.not_eq_false', beq_iff_eq, beq_eq_false_iff_ne, ne_eq] at h1
  refine at_seq rfl ?_
  refine rg rfl ?_
  refine Rq ?_
  have tr : ∀ a b c d e : AV, let l := lc_rwickets_ok a b c d; trim ((2,e)::l) l = [(0,a),(1,b),(2,e),(6,d)] := by intros; rfl
  refine R_nil (tr ..) ?_; clear tr
  refine then_n ?_
  refine at_ret rfl ?_
  refine then_r ?_
  exfalso; omega
 ·
  try simp only [decide_eq_true_eq, decide_eq_false_iff_not, Bool.not_eq_true', Bool.not_eq_false', beq_iff_eq, beq_eq_false_iff_ne, ne_eq] at h1
  refine at_skip rfl ?_
  refine then_n ?_
  refine at_seq rfl ?_
  refine rg rfl ?_
  refine Rq ?_
  refine Rq ?_
  refine Rq ?_
  refine Rq ?_
  refine Rq ?_
  refine Rq ?_
  have tr : ∀ a b c d e f g h i j : AV, let l := lc_rwickets_ok a b c d; trim ((2,j)::(11,i)::(10,h)::(9,g)::(8,f)::(7,e)::l) l = [(0,a),(1,b),(2,j),(6,d)] := by intros; rfl
  refine R_nil (tr ..) ?_; clear tr
  refine then_n ?_
  refine at_ret rfl ?_
  refine fpure ?_
  exact ⟨rfl, rfl⟩

end Go.Proofs.Ytaoondlakhocnaa
end
