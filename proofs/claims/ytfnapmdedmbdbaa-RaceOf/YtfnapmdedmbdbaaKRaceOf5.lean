/-
  Texts of RaceOf, part 6 of 16. What loads, indexing, fields and lengths yield, type by type. Written by program (typack.py).
-/
import Derived.Test.YtfnapmdedmbdbaaKRaceOf4
import Derived.Test.YtfnapmdedmbdbaaKRaceOf1
import Derived.Shelf.SlSortCmp.InsertionK
import Derived.Shelf.Bits.Mul64
import Derived.Shelf.SlSortCmp.WholeK
import Derived.Test.YtfnapmdedmbdbaaProg
import Derived.KernelRfl
import Derived.Laws.Externs
section
namespace Go.Proofs.Ytfnapmdedmbdbaa
open Go Go.Am

theorem ldp1 (H : Heap) (b o : Nat) : loadV Try.prog H 1 (.ptr b o) = (hget H b).bind fun k => k[o]? := by rw [load_ptr _ H 1 _ ty1 b o]; rfl
theorem lde1 (H : Heap) (l : List AV) (o : Nat) : loadV Try.prog H 1 (.ele l o) = l[o]? := by rw [load_ele _ H 1 _ ty1 l o]; rfl
theorem zr1 : (tyOf Try.prog 1).bind (fun ty => ty.zero) = some [.nilFunc] := by rw [ty1]; rfl
theorem ldp2 (H : Heap) (b o : Nat) : loadV Try.prog H 2 (.ptr b o) = (hget H b).bind fun k => k[o]? := by rw [load_ptr _ H 2 _ ty2 b o]; rfl
theorem lde2 (H : Heap) (l : List AV) (o : Nat) : loadV Try.prog H 2 (.ele l o) = l[o]? := by rw [load_ele _ H 2 _ ty2 l o]; rfl
theorem zr2 : (tyOf Try.prog 2).bind (fun ty => ty.zero) = some [.int .i64 0] := by rw [ty2]; rfl
theorem ldp3 (H : Heap) (b o : Nat) : loadV Try.prog H 3 (.ptr b o) = (hget H b).bind fun k => k[o]? := by rw [load_ptr _ H 3 _ ty3 b o]; rfl
theorem lde3 (H : Heap) (l : List AV) (o : Nat) : loadV Try.prog H 3 (.ele l o) = l[o]? := by rw [load_ele _ H 3 _ ty3 l o]; rfl
theorem zr3 : (tyOf Try.prog 3).bind (fun ty => ty.zero) = some [.int .i64 0] := by rw [ty3]; rfl
theorem ldp4 (H : Heap) (b o : Nat) : loadV Try.prog H 4 (.ptr b o) = (hget H b).bind fun k => k[o]? := by rw [load_ptr _ H 4 _ ty4 b o]; rfl
theorem lde4 (H : Heap) (l : List AV) (o : Nat) : loadV Try.prog H 4 (.ele l o) = l[o]? := by rw [load_ele _ H 4 _ ty4 l o]; rfl
theorem zr4 : (tyOf Try.prog 4).bind (fun ty => ty.zero) = some [.bool false] := by rw [ty4]; rfl
theorem beq4 (a b : Bool) : binV Try.prog .eql 4 (.v (.bool a)) (.v (.bool b)) = some (.v (.bool (a == b))) := by simp only [binV, tk4]
theorem bne4 (a b : Bool) : binV Try.prog .neq 4 (.v (.bool a)) (.v (.bool b)) = some (.v (.bool (!(a == b)))) := by simp only [binV, tk4]
theorem ldp5 (H : Heap) (b o : Nat) : loadV Try.prog H 5 (.ptr b o) = (hget H b).bind fun k => k[o]? := by rw [load_ptr _ H 5 _ ty5 b o]; rfl
theorem lde5 (H : Heap) (l : List AV) (o : Nat) : loadV Try.prog H 5 (.ele l o) = l[o]? := by rw [load_ele _ H 5 _ ty5 l o]; rfl
theorem zr5 : (tyOf Try.prog 5).bind (fun ty => ty.zero) = some [.int .u8 0] := by rw [ty5]; rfl
theorem ldp6 (H : Heap) (b o : Nat) : loadV Try.prog H 6 (.ptr b o) = (hget H b).bind fun k => k[o]? := by rw [load_ptr _ H 6 _ ty6 b o]; rfl
theorem lde6 (H : Heap) (l : List AV) (o : Nat) : loadV Try.prog H 6 (.ele l o) = l[o]? := by rw [load_ele _ H 6 _ ty6 l o]; rfl
theorem zr6 : (tyOf Try.prog 6).bind (fun ty => ty.zero) = some [.int .u8 0] := by rw [ty6]; rfl
theorem ldp7 (H : Heap) (b o : Nat) : loadV Try.prog H 7 (.ptr b o) = (hget H b).bind fun k => partL { size := 4, bytes := 24, agg := true, k := .struct [(0, 2), (1, 3), (2, 4), (3, 6)], zero := some [.int .i64 0, .int .i64 0, .bool false, .int .u8 0] } k o := load_ptr _ H 7 _ ty7 b o
theorem lde7 (H : Heap) (l : List AV) (o : Nat) : loadV Try.prog H 7 (.ele l o) = partL { size := 4, bytes := 24, agg := true, k := .struct [(0, 2), (1, 3), (2, 4), (3, 6)], zero := some [.int .i64 0, .int .i64 0, .bool false, .int .u8 0] } l o := load_ele _ H 7 _ ty7 l o
theorem pl7 (l : List AV) (o : Nat) (h : o + 4 ≤ l.length) : partL { size := 4, bytes := 24, agg := true, k := .struct [(0, 2), (1, 3), (2, 4), (3, 6)], zero := some [.int .i64 0, .int .i64 0, .bool false, .int .u8 0] } l o = some (.agg ((l.drop o).take 4)) := by rw [partL_agg _ _ _ rfl, if_pos h]
theorem zr7 : (tyOf Try.prog 7).bind (fun ty => ty.zero) = some [.int .i64 0, .int .i64 0, .bool false, .int .u8 0] := by rw [ty7]; rfl
theorem fap7_0 (b o : Nat) : fieldAddrV Try.prog 7 (.ptr b o) 0 = some (.ptr b (o)) := fa_ptr _ 7 _ tk7 b o 0 0 2 _ rfl ty2 (by decide)
theorem fae7_0 (l : List AV) (o : Nat) : fieldAddrV Try.prog 7 (.ele l o) 0 = some (.ele l (o)) := fa_ele _ 7 _ tk7 l o 0 0 2 _ rfl ty2 (by decide)
theorem fd7_0 (l : List AV) : fieldV Try.prog 7 (.agg l) 0 = l[0]? := by rw [fd_agg _ 7 _ tk7 l 0 0 2 _ rfl ty2]; rfl
theorem fap7_1 (b o : Nat) : fieldAddrV Try.prog 7 (.ptr b o) 1 = some (.ptr b (o + 1)) := fa_ptr _ 7 _ tk7 b o 1 1 3 _ rfl ty3 (by decide)
theorem fae7_1 (l : List AV) (o : Nat) : fieldAddrV Try.prog 7 (.ele l o) 1 = some (.ele l (o + 1)) := fa_ele _ 7 _ tk7 l o 1 1 3 _ rfl ty3 (by decide)
theorem fd7_1 (l : List AV) : fieldV Try.prog 7 (.agg l) 1 = l[1]? := by rw [fd_agg _ 7 _ tk7 l 1 1 3 _ rfl ty3]; rfl
theorem fap7_2 (b o : Nat) : fieldAddrV Try.prog 7 (.ptr b o) 2 = some (.ptr b (o + 2)) := fa_ptr _ 7 _ tk7 b o 2 2 4 _ rfl ty4 (by decide)
theorem fae7_2 (l : List AV) (o : Nat) : fieldAddrV Try.prog 7 (.ele l o) 2 = some (.ele l (o + 2)) := fa_ele _ 7 _ tk7 l o 2 2 4 _ rfl ty4 (by decide)
theorem fd7_2 (l : List AV) : fieldV Try.prog 7 (.agg l) 2 = l[2]? := by rw [fd_agg _ 7 _ tk7 l 2 2 4 _ rfl ty4]; rfl
theorem fap7_3 (b o : Nat) : fieldAddrV Try.prog 7 (.ptr b o) 3 = some (.ptr b (o + 3)) := fa_ptr _ 7 _ tk7 b o 3 3 6 _ rfl ty6 (by decide)
theorem fae7_3 (l : List AV) (o : Nat) : fieldAddrV Try.prog 7 (.ele l o) 3 = some (.ele l (o + 3)) := fa_ele _ 7 _ tk7 l o 3 3 6 _ rfl ty6 (by decide)
theorem fd7_3 (l : List AV) : fieldV Try.prog 7 (.agg l) 3 = l[3]? := by rw [fd_agg _ 7 _ tk7 l 3 3 6 _ rfl ty6]; rfl
theorem ldp8 (H : Heap) (b o : Nat) : loadV Try.prog H 8 (.ptr b o) = (hget H b).bind fun k => partL { size := 4, bytes := 24, agg := true, k := .struct [(0, 2), (1, 3), (2, 4), (3, 6)], zero := some [.int .i64 0, .int .i64 0, .bool false, .int .u8 0] } k o := load_ptr _ H 8 _ ty8 b o
theorem lde8 (H : Heap) (l : List AV) (o : Nat) : loadV Try.prog H 8 (.ele l o) = partL { size := 4, bytes := 24, agg := true, k := .struct [(0, 2), (1, 3), (2, 4), (3, 6)], zero := some [.int .i64 0, .int .i64 0, .bool false, .int .u8 0] } l o := load_ele _ H 8 _ ty8 l o
theorem pl8 (l : List AV) (o : Nat) (h : o + 4 ≤ l.length) : partL { size := 4, bytes := 24, agg := true, k := .struct [(0, 2), (1, 3), (2, 4), (3, 6)], zero := some [.int .i64 0, .int .i64 0, .bool false, .int .u8 0] } l o = some (.agg ((l.drop o).take 4)) := by rw [partL_agg _ _ _ rfl, if_pos h]
theorem zr8 : (tyOf Try.prog 8).bind (fun ty => ty.zero) = some [.int .i64 0, .int .i64 0, .bool false, .int .u8 0] := by rw [ty8]; rfl
theorem fap8_0 (b o : Nat) : fieldAddrV Try.prog 8 (.ptr b o) 0 = some (.ptr b (o)) := fa_ptr _ 8 _ tk8 b o 0 0 2 _ rfl ty2 (by decide)
theorem fae8_0 (l : List AV) (o : Nat) : fieldAddrV Try.prog 8 (.ele l o) 0 = some (.ele l (o)) := fa_ele _ 8 _ tk8 l o 0 0 2 _ rfl ty2 (by decide)
theorem fd8_0 (l : List AV) : fieldV Try.prog 8 (.agg l) 0 = l[0]? := by rw [fd_agg _ 8 _ tk8 l 0 0 2 _ rfl ty2]; rfl
theorem fap8_1 (b o : Nat) : fieldAddrV Try.prog 8 (.ptr b o) 1 = some (.ptr b (o + 1)) := fa_ptr _ 8 _ tk8 b o 1 1 3 _ rfl ty3 (by decide)
theorem fae8_1 (l : List AV) (o : Nat) : fieldAddrV Try.prog 8 (.ele l o) 1 = some (.ele l (o + 1)) := fa_ele _ 8 _ tk8 l o 1 1 3 _ rfl ty3 (by decide)
theorem fd8_1 (l : List AV) : fieldV Try.prog 8 (.agg l) 1 = l[1]? := by rw [fd_agg _ 8 _ tk8 l 1 1 3 _ rfl ty3]; rfl
theorem fap8_2 (b o : Nat) : fieldAddrV Try.prog 8 (.ptr b o) 2 = some (.ptr b (o + 2)) := fa_ptr _ 8 _ tk8 b o 2 2 4 _ rfl ty4 (by decide)
theorem fae8_2 (l : List AV) (o : Nat) : fieldAddrV Try.prog 8 (.ele l o) 2 = some (.ele l (o + 2)) := fa_ele _ 8 _ tk8 l o 2 2 4 _ rfl ty4 (by decide)
theorem fd8_2 (l : List AV) : fieldV Try.prog 8 (.agg l) 2 = l[2]? := by rw [fd_agg _ 8 _ tk8 l 2 2 4 _ rfl ty4]; rfl
theorem fap8_3 (b o : Nat) : fieldAddrV Try.prog 8 (.ptr b o) 3 = some (.ptr b (o + 3)) := fa_ptr _ 8 _ tk8 b o 3 3 6 _ rfl ty6 (by decide)
theorem fae8_3 (l : List AV) (o : Nat) : fieldAddrV Try.prog 8 (.ele l o) 3 = some (.ele l (o + 3)) := fa_ele _ 8 _ tk8 l o 3 3 6 _ rfl ty6 (by decide)
theorem fd8_3 (l : List AV) : fieldV Try.prog 8 (.agg l) 3 = l[3]? := by rw [fd_agg _ 8 _ tk8 l 3 3 6 _ rfl ty6]; rfl
theorem ldp9 (H : Heap) (b o : Nat) : loadV Try.prog H 9 (.ptr b o) = (hget H b).bind fun k => k[o]? := by rw [load_ptr _ H 9 _ ty9 b o]; rfl
theorem lde9 (H : Heap) (l : List AV) (o : Nat) : loadV Try.prog H 9 (.ele l o) = l[o]? := by rw [load_ele _ H 9 _ ty9 l o]; rfl
theorem zr9 : (tyOf Try.prog 9).bind (fun ty => ty.zero) = some [.string ⟨#[]⟩] := by rw [ty9]; rfl
theorem lnt9 (s : ByteArray) : lenV (tyOf Try.prog 9) (.v (.string s)) = some (.v (.int .i64 s.size)) := by rw [ty9]; exact len_str _ _ rfl
theorem ldp22 (H : Heap) (b o : Nat) : loadV Try.prog H 22 (.ptr b o) = (hget H b).bind fun k => k[o]? := by rw [load_ptr _ H 22 _ ty22 b o]; rfl
theorem lde22 (H : Heap) (l : List AV) (o : Nat) : loadV Try.prog H 22 (.ele l o) = l[o]? := by rw [load_ele _ H 22 _ ty22 l o]; rfl
theorem zr22 : (tyOf Try.prog 22).bind (fun ty => ty.zero) = some [.slice none 0 0] := by rw [ty22]; rfl
theorem ias22 (n : Nat) (l : List AV) (k : IntKind) (i : Int) (h0 : 0 ≤ i) (h1 : i < n) : indexAddrV Try.prog 22 (.sl n l) (.v (.int k i)) = some (.ele l (i.toNat * 8)) := by rw [ia_sl _ 22 67 _ tk22 ty67, if_pos ⟨h0, h1⟩]
theorem iao22 (z b o n : Nat) (k : IntKind) (i : Int) (h0 : 0 ≤ i) (h1 : i < n) : indexAddrV Try.prog 22 (.own z b o n) (.v (.int k i)) = some (.ptr b (o + i.toNat * 8)) := by rw [ia_own _ 22 67 _ tk22 ty67, if_pos ⟨h0, h1⟩]
theorem lns22 (n : Nat) (l : List AV) : lenV (tyOf Try.prog 22) (.sl n l) = some (.v (.int .i64 n)) := by rw [ty22]; exact len_sl _ 67 _ _ rfl
theorem lno22 (z b o n : Nat) : lenV (tyOf Try.prog 22) (.own z b o n) = some (.v (.int .i64 n)) := by rw [ty22]; exact len_own _ 67 _ _ _ _ rfl
theorem lnn22 (n : Nat) : lenV (tyOf Try.prog 22) (.v (.slice none n 0)) = some (.v (.int .i64 n)) := by rw [ty22]; exact len_nil _ 67 _ rfl
theorem ldp23 (H : Heap) (b o : Nat) : loadV Try.prog H 23 (.ptr b o) = (hget H b).bind fun k => k[o]? := by rw [load_ptr _ H 23 _ ty23 b o]; rfl
theorem lde23 (H : Heap) (l : List AV) (o : Nat) : loadV Try.prog H 23 (.ele l o) = l[o]? := by rw [load_ele _ H 23 _ ty23 l o]; rfl
theorem zr23 : (tyOf Try.prog 23).bind (fun ty => ty.zero) = some [.slice none 0 0] := by rw [ty23]; rfl
theorem ias23 (n : Nat) (l : List AV) (k : IntKind) (i : Int) (h0 : 0 ≤ i) (h1 : i < n) : indexAddrV Try.prog 23 (.sl n l) (.v (.int k i)) = some (.ele l (i.toNat * 2)) := by rw [ia_sl _ 23 33 _ tk23 ty33, if_pos ⟨h0, h1⟩]
theorem iao23 (z b o n : Nat) (k : IntKind) (i : Int) (h0 : 0 ≤ i) (h1 : i < n) : indexAddrV Try.prog 23 (.own z b o n) (.v (.int k i)) = some (.ptr b (o + i.toNat * 2)) := by rw [ia_own _ 23 33 _ tk23 ty33, if_pos ⟨h0, h1⟩]
theorem lns23 (n : Nat) (l : List AV) : lenV (tyOf Try.prog 23) (.sl n l) = some (.v (.int .i64 n)) := by rw [ty23]; exact len_sl _ 33 _ _ rfl
theorem lno23 (z b o n : Nat) : lenV (tyOf Try.prog 23) (.own z b o n) = some (.v (.int .i64 n)) := by rw [ty23]; exact len_own _ 33 _ _ _ _ rfl
theorem lnn23 (n : Nat) : lenV (tyOf Try.prog 23) (.v (.slice none n 0)) = some (.v (.int .i64 n)) := by rw [ty23]; exact len_nil _ 33 _ rfl
theorem ldp25 (H : Heap) (b o : Nat) : loadV Try.prog H 25 (.ptr b o) = (hget H b).bind fun k => k[o]? := by rw [load_ptr _ H 25 _ ty25 b o]; rfl
theorem lde25 (H : Heap) (l : List AV) (o : Nat) : loadV Try.prog H 25 (.ele l o) = l[o]? := by rw [load_ele _ H 25 _ ty25 l o]; rfl
theorem zr25 : (tyOf Try.prog 25).bind (fun ty => ty.zero) = some [.slice none 0 0] := by rw [ty25]; rfl
theorem ias25 (n : Nat) (l : List AV) (k : IntKind) (i : Int) (h0 : 0 ≤ i) (h1 : i < n) : indexAddrV Try.prog 25 (.sl n l) (.v (.int k i)) = some (.ele l (i.toNat)) := by rw [ia_sl _ 25 3 _ tk25 ty3, if_pos ⟨h0, h1⟩]; rw [Nat.mul_one]
theorem iao25 (z b o n : Nat) (k : IntKind) (i : Int) (h0 : 0 ≤ i) (h1 : i < n) : indexAddrV Try.prog 25 (.own z b o n) (.v (.int k i)) = some (.ptr b (o + i.toNat)) := by rw [ia_own _ 25 3 _ tk25 ty3, if_pos ⟨h0, h1⟩]; rw [Nat.mul_one]
theorem lns25 (n : Nat) (l : List AV) : lenV (tyOf Try.prog 25) (.sl n l) = some (.v (.int .i64 n)) := by rw [ty25]; exact len_sl _ 3 _ _ rfl
theorem lno25 (z b o n : Nat) : lenV (tyOf Try.prog 25) (.own z b o n) = some (.v (.int .i64 n)) := by rw [ty25]; exact len_own _ 3 _ _ _ _ rfl
theorem lnn25 (n : Nat) : lenV (tyOf Try.prog 25) (.v (.slice none n 0)) = some (.v (.int .i64 n)) := by rw [ty25]; exact len_nil _ 3 _ rfl
theorem ldp27 (H : Heap) (b o : Nat) : loadV Try.prog H 27 (.ptr b o) = (hget H b).bind fun k => partL { size := 2, bytes := 48, agg := true, k := .struct [(0, 25), (1, 23)], zero := some [.slice none 0 0, .slice none 0 0] } k o := load_ptr _ H 27 _ ty27 b o
theorem lde27 (H : Heap) (l : List AV) (o : Nat) : loadV Try.prog H 27 (.ele l o) = partL { size := 2, bytes := 48, agg := true, k := .struct [(0, 25), (1, 23)], zero := some [.slice none 0 0, .slice none 0 0] } l o := load_ele _ H 27 _ ty27 l o
theorem pl27 (l : List AV) (o : Nat) (h : o + 2 ≤ l.length) : partL { size := 2, bytes := 48, agg := true, k := .struct [(0, 25), (1, 23)], zero := some [.slice none 0 0, .slice none 0 0] } l o = some (.agg ((l.drop o).take 2)) := by rw [partL_agg _ _ _ rfl, if_pos h]
theorem zr27 : (tyOf Try.prog 27).bind (fun ty => ty.zero) = some [.slice none 0 0, .slice none 0 0] := by rw [ty27]; rfl
theorem fap27_0 (b o : Nat) : fieldAddrV Try.prog 27 (.ptr b o) 0 = some (.ptr b (o)) := fa_ptr _ 27 _ tk27 b o 0 0 25 _ rfl ty25 (by decide)
theorem fae27_0 (l : List AV) (o : Nat) : fieldAddrV Try.prog 27 (.ele l o) 0 = some (.ele l (o)) := fa_ele _ 27 _ tk27 l o 0 0 25 _ rfl ty25 (by decide)
theorem fd27_0 (l : List AV) : fieldV Try.prog 27 (.agg l) 0 = l[0]? := by rw [fd_agg _ 27 _ tk27 l 0 0 25 _ rfl ty25]; rfl
theorem fap27_1 (b o : Nat) : fieldAddrV Try.prog 27 (.ptr b o) 1 = some (.ptr b (o + 1)) := fa_ptr _ 27 _ tk27 b o 1 1 23 _ rfl ty23 (by decide)
theorem fae27_1 (l : List AV) (o : Nat) : fieldAddrV Try.prog 27 (.ele l o) 1 = some (.ele l (o + 1)) := fa_ele _ 27 _ tk27 l o 1 1 23 _ rfl ty23 (by decide)
theorem fd27_1 (l : List AV) : fieldV Try.prog 27 (.agg l) 1 = l[1]? := by rw [fd_agg _ 27 _ tk27 l 1 1 23 _ rfl ty23]; rfl
theorem ldp28 (H : Heap) (b o : Nat) : loadV Try.prog H 28 (.ptr b o) = (hget H b).bind fun k => k[o]? := by rw [load_ptr _ H 28 _ ty28 b o]; rfl
theorem lde28 (H : Heap) (l : List AV) (o : Nat) : loadV Try.prog H 28 (.ele l o) = l[o]? := by rw [load_ele _ H 28 _ ty28 l o]; rfl
theorem zr28 : (tyOf Try.prog 28).bind (fun ty => ty.zero) = some [.int .i64 0] := by rw [ty28]; rfl
theorem ldp33 (H : Heap) (b o : Nat) : loadV Try.prog H 33 (.ptr b o) = (hget H b).bind fun k => partL { size := 2, bytes := 16, agg := true, k := .array 2 3, zero := some [.int .i64 0, .int .i64 0] } k o := load_ptr _ H 33 _ ty33 b o
theorem lde33 (H : Heap) (l : List AV) (o : Nat) : loadV Try.prog H 33 (.ele l o) = partL { size := 2, bytes := 16, agg := true, k := .array 2 3, zero := some [.int .i64 0, .int .i64 0] } l o := load_ele _ H 33 _ ty33 l o
theorem pl33 (l : List AV) (o : Nat) (h : o + 2 ≤ l.length) : partL { size := 2, bytes := 16, agg := true, k := .array 2 3, zero := some [.int .i64 0, .int .i64 0] } l o = some (.agg ((l.drop o).take 2)) := by rw [partL_agg _ _ _ rfl, if_pos h]
theorem zr33 : (tyOf Try.prog 33).bind (fun ty => ty.zero) = some [.int .i64 0, .int .i64 0] := by rw [ty33]; rfl
theorem ldp35 (H : Heap) (b o : Nat) : loadV Try.prog H 35 (.ptr b o) = (hget H b).bind fun k => partL { size := 3, bytes := 56, agg := true, k := .struct [(0, 4), (1, 25), (2, 25)], zero := some [.bool false, .slice none 0 0, .slice none 0 0] } k o := load_ptr _ H 35 _ ty35 b o
theorem lde35 (H : Heap) (l : List AV) (o : Nat) : loadV Try.prog H 35 (.ele l o) = partL { size := 3, bytes := 56, agg := true, k := .struct [(0, 4), (1, 25), (2, 25)], zero := some [.bool false, .slice none 0 0, .slice none 0 0] } l o := load_ele _ H 35 _ ty35 l o
theorem pl35 (l : List AV) (o : Nat) (h : o + 3 ≤ l.length) : partL { size := 3, bytes := 56, agg := true, k := .struct [(0, 4), (1, 25), (2, 25)], zero := some [.bool false, .slice none 0 0, .slice none 0 0] } l o = some (.agg ((l.drop o).take 3)) := by rw [partL_agg _ _ _ rfl, if_pos h]
theorem zr35 : (tyOf Try.prog 35).bind (fun ty => ty.zero) = some [.bool false, .slice none 0 0, .slice none 0 0] := by rw [ty35]; rfl
theorem fap35_0 (b o : Nat) : fieldAddrV Try.prog 35 (.ptr b o) 0 = some (.ptr b (o)) := fa_ptr _ 35 _ tk35 b o 0 0 4 _ rfl ty4 (by decide)
theorem fae35_0 (l : List AV) (o : Nat) : fieldAddrV Try.prog 35 (.ele l o) 0 = some (.ele l (o)) := fa_ele _ 35 _ tk35 l o 0 0 4 _ rfl ty4 (by decide)
theorem fd35_0 (l : List AV) : fieldV Try.prog 35 (.agg l) 0 = l[0]? := by rw [fd_agg _ 35 _ tk35 l 0 0 4 _ rfl ty4]; rfl
theorem fap35_1 (b o : Nat) : fieldAddrV Try.prog 35 (.ptr b o) 1 = some (.ptr b (o + 1)) := fa_ptr _ 35 _ tk35 b o 1 1 25 _ rfl ty25 (by decide)
theorem fae35_1 (l : List AV) (o : Nat) : fieldAddrV Try.prog 35 (.ele l o) 1 = some (.ele l (o + 1)) := fa_ele _ 35 _ tk35 l o 1 1 25 _ rfl ty25 (by decide)
theorem fd35_1 (l : List AV) : fieldV Try.prog 35 (.agg l) 1 = l[1]? := by rw [fd_agg _ 35 _ tk35 l 1 1 25 _ rfl ty25]; rfl
theorem fap35_2 (b o : Nat) : fieldAddrV Try.prog 35 (.ptr b o) 2 = some (.ptr b (o + 2)) := fa_ptr _ 35 _ tk35 b o 2 2 25 _ rfl ty25 (by decide)
theorem fae35_2 (l : List AV) (o : Nat) : fieldAddrV Try.prog 35 (.ele l o) 2 = some (.ele l (o + 2)) := fa_ele _ 35 _ tk35 l o 2 2 25 _ rfl ty25 (by decide)
theorem fd35_2 (l : List AV) : fieldV Try.prog 35 (.agg l) 2 = l[2]? := by rw [fd_agg _ 35 _ tk35 l 2 2 25 _ rfl ty25]; rfl
theorem ldp42 (H : Heap) (b o : Nat) : loadV Try.prog H 42 (.ptr b o) = (hget H b).bind fun k => k[o]? := by rw [load_ptr _ H 42 _ ty42 b o]; rfl
theorem lde42 (H : Heap) (l : List AV) (o : Nat) : loadV Try.prog H 42 (.ele l o) = l[o]? := by rw [load_ele _ H 42 _ ty42 l o]; rfl
theorem zr42 : (tyOf Try.prog 42).bind (fun ty => ty.zero) = some [.slice none 0 0] := by rw [ty42]; rfl
theorem ias42 (n : Nat) (l : List AV) (k : IntKind) (i : Int) (h0 : 0 ≤ i) (h1 : i < n) : indexAddrV Try.prog 42 (.sl n l) (.v (.int k i)) = some (.ele l (i.toNat * 10)) := by rw [ia_sl _ 42 47 _ tk42 ty47, if_pos ⟨h0, h1⟩]
theorem iao42 (z b o n : Nat) (k : IntKind) (i : Int) (h0 : 0 ≤ i) (h1 : i < n) : indexAddrV Try.prog 42 (.own z b o n) (.v (.int k i)) = some (.ptr b (o + i.toNat * 10)) := by rw [ia_own _ 42 47 _ tk42 ty47, if_pos ⟨h0, h1⟩]
theorem lns42 (n : Nat) (l : List AV) : lenV (tyOf Try.prog 42) (.sl n l) = some (.v (.int .i64 n)) := by rw [ty42]; exact len_sl _ 47 _ _ rfl
theorem lno42 (z b o n : Nat) : lenV (tyOf Try.prog 42) (.own z b o n) = some (.v (.int .i64 n)) := by rw [ty42]; exact len_own _ 47 _ _ _ _ rfl
theorem lnn42 (n : Nat) : lenV (tyOf Try.prog 42) (.v (.slice none n 0)) = some (.v (.int .i64 n)) := by rw [ty42]; exact len_nil _ 47 _ rfl
theorem ldp47 (H : Heap) (b o : Nat) : loadV Try.prog H 47 (.ptr b o) = (hget H b).bind fun k => partL { size := 10, bytes := 80, agg := true, k := .struct [(0, 3), (1, 3), (2, 3), (3, 3), (4, 3), (5, 3), (6, 3), (7, 3), (8, 3), (9, 3)], zero := some [.int .i64 0, .int .i64 0, .int .i64 0, .int .i64 0, .int .i64 0, .int .i64 0, .int .i64 0, .int .i64 0, .int .i64 0, .int .i64 0] } k o := load_ptr _ H 47 _ ty47 b o
theorem lde47 (H : Heap) (l : List AV) (o : Nat) : loadV Try.prog H 47 (.ele l o) = partL { size := 10, bytes := 80, agg := true, k := .struct [(0, 3), (1, 3), (2, 3), (3, 3), (4, 3), (5, 3), (6, 3), (7, 3), (8, 3), (9, 3)], zero := some [.int .i64 0, .int .i64 0, .int .i64 0, .int .i64 0, .int .i64 0, .int .i64 0, .int .i64 0, .int .i64 0, .int .i64 0, .int .i64 0] } l o := load_ele _ H 47 _ ty47 l o
theorem pl47 (l : List AV) (o : Nat) (h : o + 10 ≤ l.length) : partL { size := 10, bytes := 80, agg := true, k := .struct [(0, 3), (1, 3), (2, 3), (3, 3), (4, 3), (5, 3), (6, 3), (7, 3), (8, 3), (9, 3)], zero := some [.int .i64 0, .int .i64 0, .int .i64 0, .int .i64 0, .int .i64 0, .int .i64 0, .int .i64 0, .int .i64 0, .int .i64 0, .int .i64 0] } l o = some (.agg ((l.drop o).take 10)) := by rw [partL_agg _ _ _ rfl, if_pos h]
theorem zr47 : (tyOf Try.prog 47).bind (fun ty => ty.zero) = some [.int .i64 0, .int .i64 0, .int .i64 0, .int .i64 0, .int .i64 0, .int .i64 0, .int .i64 0, .int .i64 0, .int .i64 0, .int .i64 0] := by rw [ty47]; rfl
theorem fap47_0 (b o : Nat) : fieldAddrV Try.prog 47 (.ptr b o) 0 = some (.ptr b (o)) := fa_ptr _ 47 _ tk47 b o 0 0 3 _ rfl ty3 (by decide)
theorem fae47_0 (l : List AV) (o : Nat) : fieldAddrV Try.prog 47 (.ele l o) 0 = some (.ele l (o)) := fa_ele _ 47 _ tk47 l o 0 0 3 _ rfl ty3 (by decide)
theorem fd47_0 (l : List AV) : fieldV Try.prog 47 (.agg l) 0 = l[0]? := by rw [fd_agg _ 47 _ tk47 l 0 0 3 _ rfl ty3]; rfl
theorem fap47_1 (b o : Nat) : fieldAddrV Try.prog 47 (.ptr b o) 1 = some (.ptr b (o + 1)) := fa_ptr _ 47 _ tk47 b o 1 1 3 _ rfl ty3 (by decide)
theorem fae47_1 (l : List AV) (o : Nat) : fieldAddrV Try.prog 47 (.ele l o) 1 = some (.ele l (o + 1)) := fa_ele _ 47 _ tk47 l o 1 1 3 _ rfl ty3 (by decide)
theorem fd47_1 (l : List AV) : fieldV Try.prog 47 (.agg l) 1 = l[1]? := by rw [fd_agg _ 47 _ tk47 l 1 1 3 _ rfl ty3]; rfl
theorem fap47_2 (b o : Nat) : fieldAddrV Try.prog 47 (.ptr b o) 2 = some (.ptr b (o + 2)) := fa_ptr _ 47 _ tk47 b o 2 2 3 _ rfl ty3 (by decide)
theorem fae47_2 (l : List AV) (o : Nat) : fieldAddrV Try.prog 47 (.ele l o) 2 = some (.ele l (o + 2)) := fa_ele _ 47 _ tk47 l o 2 2 3 _ rfl ty3 (by decide)
theorem fd47_2 (l : List AV) : fieldV Try.prog 47 (.agg l) 2 = l[2]? := by rw [fd_agg _ 47 _ tk47 l 2 2 3 _ rfl ty3]; rfl
theorem fap47_3 (b o : Nat) : fieldAddrV Try.prog 47 (.ptr b o) 3 = some (.ptr b (o + 3)) := fa_ptr _ 47 _ tk47 b o 3 3 3 _ rfl ty3 (by decide)
theorem fae47_3 (l : List AV) (o : Nat) : fieldAddrV Try.prog 47 (.ele l o) 3 = some (.ele l (o + 3)) := fa_ele _ 47 _ tk47 l o 3 3 3 _ rfl ty3 (by decide)
theorem fd47_3 (l : List AV) : fieldV Try.prog 47 (.agg l) 3 = l[3]? := by rw [fd_agg _ 47 _ tk47 l 3 3 3 _ rfl ty3]; rfl
theorem fap47_4 (b o : Nat) : fieldAddrV Try.prog 47 (.ptr b o) 4 = some (.ptr b (o + 4)) := fa_ptr _ 47 _ tk47 b o 4 4 3 _ rfl ty3 (by decide)
theorem fae47_4 (l : List AV) (o : Nat) : fieldAddrV Try.prog 47 (.ele l o) 4 = some (.ele l (o + 4)) := fa_ele _ 47 _ tk47 l o 4 4 3 _ rfl ty3 (by decide)
theorem fd47_4 (l : List AV) : fieldV Try.prog 47 (.agg l) 4 = l[4]? := by rw [fd_agg _ 47 _ tk47 l 4 4 3 _ rfl ty3]; rfl
theorem fap47_5 (b o : Nat) : fieldAddrV Try.prog 47 (.ptr b o) 5 = some (.ptr b (o + 5)) := fa_ptr _ 47 _ tk47 b o 5 5 3 _ rfl ty3 (by decide)
theorem fae47_5 (l : List AV) (o : Nat) : fieldAddrV Try.prog 47 (.ele l o) 5 = some (.ele l (o + 5)) := fa_ele _ 47 _ tk47 l o 5 5 3 _ rfl ty3 (by decide)
theorem fd47_5 (l : List AV) : fieldV Try.prog 47 (.agg l) 5 = l[5]? := by rw [fd_agg _ 47 _ tk47 l 5 5 3 _ rfl ty3]; rfl
theorem fap47_6 (b o : Nat) : fieldAddrV Try.prog 47 (.ptr b o) 6 = some (.ptr b (o + 6)) := fa_ptr _ 47 _ tk47 b o 6 6 3 _ rfl ty3 (by decide)
theorem fae47_6 (l : List AV) (o : Nat) : fieldAddrV Try.prog 47 (.ele l o) 6 = some (.ele l (o + 6)) := fa_ele _ 47 _ tk47 l o 6 6 3 _ rfl ty3 (by decide)
theorem fd47_6 (l : List AV) : fieldV Try.prog 47 (.agg l) 6 = l[6]? := by rw [fd_agg _ 47 _ tk47 l 6 6 3 _ rfl ty3]; rfl
theorem fap47_7 (b o : Nat) : fieldAddrV Try.prog 47 (.ptr b o) 7 = some (.ptr b (o + 7)) := fa_ptr _ 47 _ tk47 b o 7 7 3 _ rfl ty3 (by decide)
theorem fae47_7 (l : List AV) (o : Nat) : fieldAddrV Try.prog 47 (.ele l o) 7 = some (.ele l (o + 7)) := fa_ele _ 47 _ tk47 l o 7 7 3 _ rfl ty3 (by decide)
theorem fd47_7 (l : List AV) : fieldV Try.prog 47 (.agg l) 7 = l[7]? := by rw [fd_agg _ 47 _ tk47 l 7 7 3 _ rfl ty3]; rfl
theorem fap47_8 (b o : Nat) : fieldAddrV Try.prog 47 (.ptr b o) 8 = some (.ptr b (o + 8)) := fa_ptr _ 47 _ tk47 b o 8 8 3 _ rfl ty3 (by decide)
theorem fae47_8 (l : List AV) (o : Nat) : fieldAddrV Try.prog 47 (.ele l o) 8 = some (.ele l (o + 8)) := fa_ele _ 47 _ tk47 l o 8 8 3 _ rfl ty3 (by decide)
theorem fd47_8 (l : List AV) : fieldV Try.prog 47 (.agg l) 8 = l[8]? := by rw [fd_agg _ 47 _ tk47 l 8 8 3 _ rfl ty3]; rfl
theorem fap47_9 (b o : Nat) : fieldAddrV Try.prog 47 (.ptr b o) 9 = some (.ptr b (o + 9)) := fa_ptr _ 47 _ tk47 b o 9 9 3 _ rfl ty3 (by decide)
theorem fae47_9 (l : List AV) (o : Nat) : fieldAddrV Try.prog 47 (.ele l o) 9 = some (.ele l (o + 9)) := fa_ele _ 47 _ tk47 l o 9 9 3 _ rfl ty3 (by decide)
theorem fd47_9 (l : List AV) : fieldV Try.prog 47 (.agg l) 9 = l[9]? := by rw [fd_agg _ 47 _ tk47 l 9 9 3 _ rfl ty3]; rfl
theorem ldp51 (H : Heap) (b o : Nat) : loadV Try.prog H 51 (.ptr b o) = (hget H b).bind fun k => k[o]? := by rw [load_ptr _ H 51 _ ty51 b o]; rfl
theorem lde51 (H : Heap) (l : List AV) (o : Nat) : loadV Try.prog H 51 (.ele l o) = l[o]? := by rw [load_ele _ H 51 _ ty51 l o]; rfl
theorem zr51 : (tyOf Try.prog 51).bind (fun ty => ty.zero) = some [.slice none 0 0] := by rw [ty51]; rfl
theorem ias51 (n : Nat) (l : List AV) (k : IntKind) (i : Int) (h0 : 0 ≤ i) (h1 : i < n) : indexAddrV Try.prog 51 (.sl n l) (.v (.int k i)) = some (.ele l (i.toNat * 3)) := by rw [ia_sl _ 51 61 _ tk51 ty61, if_pos ⟨h0, h1⟩]
theorem iao51 (z b o n : Nat) (k : IntKind) (i : Int) (h0 : 0 ≤ i) (h1 : i < n) : indexAddrV Try.prog 51 (.own z b o n) (.v (.int k i)) = some (.ptr b (o + i.toNat * 3)) := by rw [ia_own _ 51 61 _ tk51 ty61, if_pos ⟨h0, h1⟩]
theorem lns51 (n : Nat) (l : List AV) : lenV (tyOf Try.prog 51) (.sl n l) = some (.v (.int .i64 n)) := by rw [ty51]; exact len_sl _ 61 _ _ rfl
theorem lno51 (z b o n : Nat) : lenV (tyOf Try.prog 51) (.own z b o n) = some (.v (.int .i64 n)) := by rw [ty51]; exact len_own _ 61 _ _ _ _ rfl
theorem lnn51 (n : Nat) : lenV (tyOf Try.prog 51) (.v (.slice none n 0)) = some (.v (.int .i64 n)) := by rw [ty51]; exact len_nil _ 61 _ rfl
theorem ldp53 (H : Heap) (b o : Nat) : loadV Try.prog H 53 (.ptr b o) = (hget H b).bind fun k => partL { size := 4, bytes := 48, agg := true, k := .struct [(0, 3), (1, 3), (2, 3), (3, 51)], zero := some [.int .i64 0, .int .i64 0, .int .i64 0, .slice none 0 0] } k o := load_ptr _ H 53 _ ty53 b o
theorem lde53 (H : Heap) (l : List AV) (o : Nat) : loadV Try.prog H 53 (.ele l o) = partL { size := 4, bytes := 48, agg := true, k := .struct [(0, 3), (1, 3), (2, 3), (3, 51)], zero := some [.int .i64 0, .int .i64 0, .int .i64 0, .slice none 0 0] } l o := load_ele _ H 53 _ ty53 l o
theorem pl53 (l : List AV) (o : Nat) (h : o + 4 ≤ l.length) : partL { size := 4, bytes := 48, agg := true, k := .struct [(0, 3), (1, 3), (2, 3), (3, 51)], zero := some [.int .i64 0, .int .i64 0, .int .i64 0, .slice none 0 0] } l o = some (.agg ((l.drop o).take 4)) := by rw [partL_agg _ _ _ rfl, if_pos h]
theorem zr53 : (tyOf Try.prog 53).bind (fun ty => ty.zero) = some [.int .i64 0, .int .i64 0, .int .i64 0, .slice none 0 0] := by rw [ty53]; rfl
theorem fap53_0 (b o : Nat) : fieldAddrV Try.prog 53 (.ptr b o) 0 = some (.ptr b (o)) := fa_ptr _ 53 _ tk53 b o 0 0 3 _ rfl ty3 (by decide)
theorem fae53_0 (l : List AV) (o : Nat) : fieldAddrV Try.prog 53 (.ele l o) 0 = some (.ele l (o)) := fa_ele _ 53 _ tk53 l o 0 0 3 _ rfl ty3 (by decide)
theorem fd53_0 (l : List AV) : fieldV Try.prog 53 (.agg l) 0 = l[0]? := by rw [fd_agg _ 53 _ tk53 l 0 0 3 _ rfl ty3]; rfl
theorem fap53_1 (b o : Nat) : fieldAddrV Try.prog 53 (.ptr b o) 1 = some (.ptr b (o + 1)) := fa_ptr _ 53 _ tk53 b o 1 1 3 _ rfl ty3 (by decide)
theorem fae53_1 (l : List AV) (o : Nat) : fieldAddrV Try.prog 53 (.ele l o) 1 = some (.ele l (o + 1)) := fa_ele _ 53 _ tk53 l o 1 1 3 _ rfl ty3 (by decide)
theorem fd53_1 (l : List AV) : fieldV Try.prog 53 (.agg l) 1 = l[1]? := by rw [fd_agg _ 53 _ tk53 l 1 1 3 _ rfl ty3]; rfl
theorem fap53_2 (b o : Nat) : fieldAddrV Try.prog 53 (.ptr b o) 2 = some (.ptr b (o + 2)) := fa_ptr _ 53 _ tk53 b o 2 2 3 _ rfl ty3 (by decide)
theorem fae53_2 (l : List AV) (o : Nat) : fieldAddrV Try.prog 53 (.ele l o) 2 = some (.ele l (o + 2)) := fa_ele _ 53 _ tk53 l o 2 2 3 _ rfl ty3 (by decide)
theorem fd53_2 (l : List AV) : fieldV Try.prog 53 (.agg l) 2 = l[2]? := by rw [fd_agg _ 53 _ tk53 l 2 2 3 _ rfl ty3]; rfl
theorem fap53_3 (b o : Nat) : fieldAddrV Try.prog 53 (.ptr b o) 3 = some (.ptr b (o + 3)) := fa_ptr _ 53 _ tk53 b o 3 3 51 _ rfl ty51 (by decide)
theorem fae53_3 (l : List AV) (o : Nat) : fieldAddrV Try.prog 53 (.ele l o) 3 = some (.ele l (o + 3)) := fa_ele _ 53 _ tk53 l o 3 3 51 _ rfl ty51 (by decide)
theorem fd53_3 (l : List AV) : fieldV Try.prog 53 (.agg l) 3 = l[3]? := by rw [fd_agg _ 53 _ tk53 l 3 3 51 _ rfl ty51]; rfl
theorem ldp56 (H : Heap) (b o : Nat) : loadV Try.prog H 56 (.ptr b o) = (hget H b).bind fun k => k[o]? := by rw [load_ptr _ H 56 _ ty56 b o]; rfl
theorem lde56 (H : Heap) (l : List AV) (o : Nat) : loadV Try.prog H 56 (.ele l o) = l[o]? := by rw [load_ele _ H 56 _ ty56 l o]; rfl
theorem zr56 : (tyOf Try.prog 56).bind (fun ty => ty.zero) = some [.slice none 0 0] := by rw [ty56]; rfl
theorem ias56 (n : Nat) (l : List AV) (k : IntKind) (i : Int) (h0 : 0 ≤ i) (h1 : i < n) : indexAddrV Try.prog 56 (.sl n l) (.v (.int k i)) = some (.ele l (i.toNat)) := by rw [ia_sl _ 56 2 _ tk56 ty2, if_pos ⟨h0, h1⟩]; rw [Nat.mul_one]
theorem iao56 (z b o n : Nat) (k : IntKind) (i : Int) (h0 : 0 ≤ i) (h1 : i < n) : indexAddrV Try.prog 56 (.own z b o n) (.v (.int k i)) = some (.ptr b (o + i.toNat)) := by rw [ia_own _ 56 2 _ tk56 ty2, if_pos ⟨h0, h1⟩]; rw [Nat.mul_one]
theorem lns56 (n : Nat) (l : List AV) : lenV (tyOf Try.prog 56) (.sl n l) = some (.v (.int .i64 n)) := by rw [ty56]; exact len_sl _ 2 _ _ rfl
theorem lno56 (z b o n : Nat) : lenV (tyOf Try.prog 56) (.own z b o n) = some (.v (.int .i64 n)) := by rw [ty56]; exact len_own _ 2 _ _ _ _ rfl
theorem lnn56 (n : Nat) : lenV (tyOf Try.prog 56) (.v (.slice none n 0)) = some (.v (.int .i64 n)) := by rw [ty56]; exact len_nil _ 2 _ rfl
theorem ldp57 (H : Heap) (b o : Nat) : loadV Try.prog H 57 (.ptr b o) = (hget H b).bind fun k => k[o]? := by rw [load_ptr _ H 57 _ ty57 b o]; rfl
theorem lde57 (H : Heap) (l : List AV) (o : Nat) : loadV Try.prog H 57 (.ele l o) = l[o]? := by rw [load_ele _ H 57 _ ty57 l o]; rfl
theorem zr57 : (tyOf Try.prog 57).bind (fun ty => ty.zero) = some [.slice none 0 0] := by rw [ty57]; rfl
theorem ias57 (n : Nat) (l : List AV) (k : IntKind) (i : Int) (h0 : 0 ≤ i) (h1 : i < n) : indexAddrV Try.prog 57 (.sl n l) (.v (.int k i)) = some (.ele l (i.toNat)) := by rw [ia_sl _ 57 4 _ tk57 ty4, if_pos ⟨h0, h1⟩]; rw [Nat.mul_one]
theorem iao57 (z b o n : Nat) (k : IntKind) (i : Int) (h0 : 0 ≤ i) (h1 : i < n) : indexAddrV Try.prog 57 (.own z b o n) (.v (.int k i)) = some (.ptr b (o + i.toNat)) := by rw [ia_own _ 57 4 _ tk57 ty4, if_pos ⟨h0, h1⟩]; rw [Nat.mul_one]
theorem lns57 (n : Nat) (l : List AV) : lenV (tyOf Try.prog 57) (.sl n l) = some (.v (.int .i64 n)) := by rw [ty57]; exact len_sl _ 4 _ _ rfl
theorem lno57 (z b o n : Nat) : lenV (tyOf Try.prog 57) (.own z b o n) = some (.v (.int .i64 n)) := by rw [ty57]; exact len_own _ 4 _ _ _ _ rfl
theorem lnn57 (n : Nat) : lenV (tyOf Try.prog 57) (.v (.slice none n 0)) = some (.v (.int .i64 n)) := by rw [ty57]; exact len_nil _ 4 _ rfl
theorem ldp61 (H : Heap) (b o : Nat) : loadV Try.prog H 61 (.ptr b o) = (hget H b).bind fun k => partL { size := 3, bytes := 24, agg := true, k := .struct [(0, 3), (1, 3), (2, 2)], zero := some [.int .i64 0, .int .i64 0, .int .i64 0] } k o := load_ptr _ H 61 _ ty61 b o
theorem lde61 (H : Heap) (l : List AV) (o : Nat) : loadV Try.prog H 61 (.ele l o) = partL { size := 3, bytes := 24, agg := true, k := .struct [(0, 3), (1, 3), (2, 2)], zero := some [.int .i64 0, .int .i64 0, .int .i64 0] } l o := load_ele _ H 61 _ ty61 l o
theorem pl61 (l : List AV) (o : Nat) (h : o + 3 ≤ l.length) : partL { size := 3, bytes := 24, agg := true, k := .struct [(0, 3), (1, 3), (2, 2)], zero := some [.int .i64 0, .int .i64 0, .int .i64 0] } l o = some (.agg ((l.drop o).take 3)) := by rw [partL_agg _ _ _ rfl, if_pos h]
theorem zr61 : (tyOf Try.prog 61).bind (fun ty => ty.zero) = some [.int .i64 0, .int .i64 0, .int .i64 0] := by rw [ty61]; rfl
theorem fap61_0 (b o : Nat) : fieldAddrV Try.prog 61 (.ptr b o) 0 = some (.ptr b (o)) := fa_ptr _ 61 _ tk61 b o 0 0 3 _ rfl ty3 (by decide)
theorem fae61_0 (l : List AV) (o : Nat) : fieldAddrV Try.prog 61 (.ele l o) 0 = some (.ele l (o)) := fa_ele _ 61 _ tk61 l o 0 0 3 _ rfl ty3 (by decide)
theorem fd61_0 (l : List AV) : fieldV Try.prog 61 (.agg l) 0 = l[0]? := by rw [fd_agg _ 61 _ tk61 l 0 0 3 _ rfl ty3]; rfl
theorem fap61_1 (b o : Nat) : fieldAddrV Try.prog 61 (.ptr b o) 1 = some (.ptr b (o + 1)) := fa_ptr _ 61 _ tk61 b o 1 1 3 _ rfl ty3 (by decide)
theorem fae61_1 (l : List AV) (o : Nat) : fieldAddrV Try.prog 61 (.ele l o) 1 = some (.ele l (o + 1)) := fa_ele _ 61 _ tk61 l o 1 1 3 _ rfl ty3 (by decide)
theorem fd61_1 (l : List AV) : fieldV Try.prog 61 (.agg l) 1 = l[1]? := by rw [fd_agg _ 61 _ tk61 l 1 1 3 _ rfl ty3]; rfl
theorem fap61_2 (b o : Nat) : fieldAddrV Try.prog 61 (.ptr b o) 2 = some (.ptr b (o + 2)) := fa_ptr _ 61 _ tk61 b o 2 2 2 _ rfl ty2 (by decide)
theorem fae61_2 (l : List AV) (o : Nat) : fieldAddrV Try.prog 61 (.ele l o) 2 = some (.ele l (o + 2)) := fa_ele _ 61 _ tk61 l o 2 2 2 _ rfl ty2 (by decide)
theorem fd61_2 (l : List AV) : fieldV Try.prog 61 (.agg l) 2 = l[2]? := by rw [fd_agg _ 61 _ tk61 l 2 2 2 _ rfl ty2]; rfl
theorem ldp67 (H : Heap) (b o : Nat) : loadV Try.prog H 67 (.ptr b o) = (hget H b).bind fun k => partL { size := 8, bytes := 64, agg := true, k := .struct [(0, 3), (1, 3), (2, 3), (3, 3), (4, 3), (5, 3), (6, 3), (7, 4)], zero := some [.int .i64 0, .int .i64 0, .int .i64 0, .int .i64 0, .int .i64 0, .int .i64 0, .int .i64 0, .bool false] } k o := load_ptr _ H 67 _ ty67 b o
theorem lde67 (H : Heap) (l : List AV) (o : Nat) : loadV Try.prog H 67 (.ele l o) = partL { size := 8, bytes := 64, agg := true, k := .struct [(0, 3), (1, 3), (2, 3), (3, 3), (4, 3), (5, 3), (6, 3), (7, 4)], zero := some [.int .i64 0, .int .i64 0, .int .i64 0, .int .i64 0, .int .i64 0, .int .i64 0, .int .i64 0, .bool false] } l o := load_ele _ H 67 _ ty67 l o
theorem pl67 (l : List AV) (o : Nat) (h : o + 8 ≤ l.length) : partL { size := 8, bytes := 64, agg := true, k := .struct [(0, 3), (1, 3), (2, 3), (3, 3), (4, 3), (5, 3), (6, 3), (7, 4)], zero := some [.int .i64 0, .int .i64 0, .int .i64 0, .int .i64 0, .int .i64 0, .int .i64 0, .int .i64 0, .bool false] } l o = some (.agg ((l.drop o).take 8)) := by rw [partL_agg _ _ _ rfl, if_pos h]
theorem zr67 : (tyOf Try.prog 67).bind (fun ty => ty.zero) = some [.int .i64 0, .int .i64 0, .int .i64 0, .int .i64 0, .int .i64 0, .int .i64 0, .int .i64 0, .bool false] := by rw [ty67]; rfl
theorem fap67_0 (b o : Nat) : fieldAddrV Try.prog 67 (.ptr b o) 0 = some (.ptr b (o)) := fa_ptr _ 67 _ tk67 b o 0 0 3 _ rfl ty3 (by decide)
theorem fae67_0 (l : List AV) (o : Nat) : fieldAddrV Try.prog 67 (.ele l o) 0 = some (.ele l (o)) := fa_ele _ 67 _ tk67 l o 0 0 3 _ rfl ty3 (by decide)
theorem fd67_0 (l : List AV) : fieldV Try.prog 67 (.agg l) 0 = l[0]? := by rw [fd_agg _ 67 _ tk67 l 0 0 3 _ rfl ty3]; rfl
theorem fap67_1 (b o : Nat) : fieldAddrV Try.prog 67 (.ptr b o) 1 = some (.ptr b (o + 1)) := fa_ptr _ 67 _ tk67 b o 1 1 3 _ rfl ty3 (by decide)
theorem fae67_1 (l : List AV) (o : Nat) : fieldAddrV Try.prog 67 (.ele l o) 1 = some (.ele l (o + 1)) := fa_ele _ 67 _ tk67 l o 1 1 3 _ rfl ty3 (by decide)
theorem fd67_1 (l : List AV) : fieldV Try.prog 67 (.agg l) 1 = l[1]? := by rw [fd_agg _ 67 _ tk67 l 1 1 3 _ rfl ty3]; rfl
theorem fap67_2 (b o : Nat) : fieldAddrV Try.prog 67 (.ptr b o) 2 = some (.ptr b (o + 2)) := fa_ptr _ 67 _ tk67 b o 2 2 3 _ rfl ty3 (by decide)
theorem fae67_2 (l : List AV) (o : Nat) : fieldAddrV Try.prog 67 (.ele l o) 2 = some (.ele l (o + 2)) := fa_ele _ 67 _ tk67 l o 2 2 3 _ rfl ty3 (by decide)
theorem fd67_2 (l : List AV) : fieldV Try.prog 67 (.agg l) 2 = l[2]? := by rw [fd_agg _ 67 _ tk67 l 2 2 3 _ rfl ty3]; rfl
theorem fap67_3 (b o : Nat) : fieldAddrV Try.prog 67 (.ptr b o) 3 = some (.ptr b (o + 3)) := fa_ptr _ 67 _ tk67 b o 3 3 3 _ rfl ty3 (by decide)
theorem fae67_3 (l : List AV) (o : Nat) : fieldAddrV Try.prog 67 (.ele l o) 3 = some (.ele l (o + 3)) := fa_ele _ 67 _ tk67 l o 3 3 3 _ rfl ty3 (by decide)
theorem fd67_3 (l : List AV) : fieldV Try.prog 67 (.agg l) 3 = l[3]? := by rw [fd_agg _ 67 _ tk67 l 3 3 3 _ rfl ty3]; rfl
theorem fap67_4 (b o : Nat) : fieldAddrV Try.prog 67 (.ptr b o) 4 = some (.ptr b (o + 4)) := fa_ptr _ 67 _ tk67 b o 4 4 3 _ rfl ty3 (by decide)
theorem fae67_4 (l : List AV) (o : Nat) : fieldAddrV Try.prog 67 (.ele l o) 4 = some (.ele l (o + 4)) := fa_ele _ 67 _ tk67 l o 4 4 3 _ rfl ty3 (by decide)
theorem fd67_4 (l : List AV) : fieldV Try.prog 67 (.agg l) 4 = l[4]? := by rw [fd_agg _ 67 _ tk67 l 4 4 3 _ rfl ty3]; rfl
theorem fap67_5 (b o : Nat) : fieldAddrV Try.prog 67 (.ptr b o) 5 = some (.ptr b (o + 5)) := fa_ptr _ 67 _ tk67 b o 5 5 3 _ rfl ty3 (by decide)
theorem fae67_5 (l : List AV) (o : Nat) : fieldAddrV Try.prog 67 (.ele l o) 5 = some (.ele l (o + 5)) := fa_ele _ 67 _ tk67 l o 5 5 3 _ rfl ty3 (by decide)
theorem fd67_5 (l : List AV) : fieldV Try.prog 67 (.agg l) 5 = l[5]? := by rw [fd_agg _ 67 _ tk67 l 5 5 3 _ rfl ty3]; rfl
theorem fap67_6 (b o : Nat) : fieldAddrV Try.prog 67 (.ptr b o) 6 = some (.ptr b (o + 6)) := fa_ptr _ 67 _ tk67 b o 6 6 3 _ rfl ty3 (by decide)
theorem fae67_6 (l : List AV) (o : Nat) : fieldAddrV Try.prog 67 (.ele l o) 6 = some (.ele l (o + 6)) := fa_ele _ 67 _ tk67 l o 6 6 3 _ rfl ty3 (by decide)
theorem fd67_6 (l : List AV) : fieldV Try.prog 67 (.agg l) 6 = l[6]? := by rw [fd_agg _ 67 _ tk67 l 6 6 3 _ rfl ty3]; rfl
theorem fap67_7 (b o : Nat) : fieldAddrV Try.prog 67 (.ptr b o) 7 = some (.ptr b (o + 7)) := fa_ptr _ 67 _ tk67 b o 7 7 4 _ rfl ty4 (by decide)
theorem fae67_7 (l : List AV) (o : Nat) : fieldAddrV Try.prog 67 (.ele l o) 7 = some (.ele l (o + 7)) := fa_ele _ 67 _ tk67 l o 7 7 4 _ rfl ty4 (by decide)
theorem fd67_7 (l : List AV) : fieldV Try.prog 67 (.agg l) 7 = l[7]? := by rw [fd_agg _ 67 _ tk67 l 7 7 4 _ rfl ty4]; rfl
theorem ldp69 (H : Heap) (b o : Nat) : loadV Try.prog H 69 (.ptr b o) = (hget H b).bind fun k => k[o]? := by rw [load_ptr _ H 69 _ ty69 b o]; rfl
theorem lde69 (H : Heap) (l : List AV) (o : Nat) : loadV Try.prog H 69 (.ele l o) = l[o]? := by rw [load_ele _ H 69 _ ty69 l o]; rfl
theorem zr69 : (tyOf Try.prog 69).bind (fun ty => ty.zero) = some [.pointer none] := by rw [ty69]; rfl
theorem ldp71 (H : Heap) (b o : Nat) : loadV Try.prog H 71 (.ptr b o) = (hget H b).bind fun k => k[o]? := by rw [load_ptr _ H 71 _ ty71 b o]; rfl
theorem lde71 (H : Heap) (l : List AV) (o : Nat) : loadV Try.prog H 71 (.ele l o) = l[o]? := by rw [load_ele _ H 71 _ ty71 l o]; rfl
theorem zr71 : (tyOf Try.prog 71).bind (fun ty => ty.zero) = some [.nilFunc] := by rw [ty71]; rfl
theorem ldp77 (H : Heap) (b o : Nat) : loadV Try.prog H 77 (.ptr b o) = (hget H b).bind fun k => k[o]? := by rw [load_ptr _ H 77 _ ty77 b o]; rfl
theorem lde77 (H : Heap) (l : List AV) (o : Nat) : loadV Try.prog H 77 (.ele l o) = l[o]? := by rw [load_ele _ H 77 _ ty77 l o]; rfl
theorem zr77 : (tyOf Try.prog 77).bind (fun ty => ty.zero) = some [.slice none 0 0] := by rw [ty77]; rfl
theorem ias77 (n : Nat) (l : List AV) (k : IntKind) (i : Int) (h0 : 0 ≤ i) (h1 : i < n) : indexAddrV Try.prog 77 (.sl n l) (.v (.int k i)) = some (.ele l (i.toNat * 2)) := by rw [ia_sl _ 77 81 _ tk77 ty81, if_pos ⟨h0, h1⟩]
theorem iao77 (z b o n : Nat) (k : IntKind) (i : Int) (h0 : 0 ≤ i) (h1 : i < n) : indexAddrV Try.prog 77 (.own z b o n) (.v (.int k i)) = some (.ptr b (o + i.toNat * 2)) := by rw [ia_own _ 77 81 _ tk77 ty81, if_pos ⟨h0, h1⟩]
theorem lns77 (n : Nat) (l : List AV) : lenV (tyOf Try.prog 77) (.sl n l) = some (.v (.int .i64 n)) := by rw [ty77]; exact len_sl _ 81 _ _ rfl
theorem lno77 (z b o n : Nat) : lenV (tyOf Try.prog 77) (.own z b o n) = some (.v (.int .i64 n)) := by rw [ty77]; exact len_own _ 81 _ _ _ _ rfl
theorem lnn77 (n : Nat) : lenV (tyOf Try.prog 77) (.v (.slice none n 0)) = some (.v (.int .i64 n)) := by rw [ty77]; exact len_nil _ 81 _ rfl
theorem ldp81 (H : Heap) (b o : Nat) : loadV Try.prog H 81 (.ptr b o) = (hget H b).bind fun k => partL { size := 2, bytes := 16, agg := true, k := .struct [(0, 3), (1, 4)], zero := some [.int .i64 0, .bool false] } k o := load_ptr _ H 81 _ ty81 b o
theorem lde81 (H : Heap) (l : List AV) (o : Nat) : loadV Try.prog H 81 (.ele l o) = partL { size := 2, bytes := 16, agg := true, k := .struct [(0, 3), (1, 4)], zero := some [.int .i64 0, .bool false] } l o := load_ele _ H 81 _ ty81 l o
theorem pl81 (l : List AV) (o : Nat) (h : o + 2 ≤ l.length) : partL { size := 2, bytes := 16, agg := true, k := .struct [(0, 3), (1, 4)], zero := some [.int .i64 0, .bool false] } l o = some (.agg ((l.drop o).take 2)) := by rw [partL_agg _ _ _ rfl, if_pos h]
theorem zr81 : (tyOf Try.prog 81).bind (fun ty => ty.zero) = some [.int .i64 0, .bool false] := by rw [ty81]; rfl
theorem fap81_0 (b o : Nat) : fieldAddrV Try.prog 81 (.ptr b o) 0 = some (.ptr b (o)) := fa_ptr _ 81 _ tk81 b o 0 0 3 _ rfl ty3 (by decide)
theorem fae81_0 (l : List AV) (o : Nat) : fieldAddrV Try.prog 81 (.ele l o) 0 = some (.ele l (o)) := fa_ele _ 81 _ tk81 l o 0 0 3 _ rfl ty3 (by decide)
theorem fd81_0 (l : List AV) : fieldV Try.prog 81 (.agg l) 0 = l[0]? := by rw [fd_agg _ 81 _ tk81 l 0 0 3 _ rfl ty3]; rfl
theorem fap81_1 (b o : Nat) : fieldAddrV Try.prog 81 (.ptr b o) 1 = some (.ptr b (o + 1)) := fa_ptr _ 81 _ tk81 b o 1 1 4 _ rfl ty4 (by decide)
theorem fae81_1 (l : List AV) (o : Nat) : fieldAddrV Try.prog 81 (.ele l o) 1 = some (.ele l (o + 1)) := fa_ele _ 81 _ tk81 l o 1 1 4 _ rfl ty4 (by decide)
theorem fd81_1 (l : List AV) : fieldV Try.prog 81 (.agg l) 1 = l[1]? := by rw [fd_agg _ 81 _ tk81 l 1 1 4 _ rfl ty4]; rfl
theorem ldp91 (H : Heap) (b o : Nat) : loadV Try.prog H 91 (.ptr b o) = (hget H b).bind fun k => k[o]? := by rw [load_ptr _ H 91 _ ty91 b o]; rfl
theorem lde91 (H : Heap) (l : List AV) (o : Nat) : loadV Try.prog H 91 (.ele l o) = l[o]? := by rw [load_ele _ H 91 _ ty91 l o]; rfl
theorem zr91 : (tyOf Try.prog 91).bind (fun ty => ty.zero) = some [.int .u64 0] := by rw [ty91]; rfl
theorem ldp97 (H : Heap) (b o : Nat) : loadV Try.prog H 97 (.ptr b o) = (hget H b).bind fun k => k[o]? := by rw [load_ptr _ H 97 _ ty97 b o]; rfl
theorem lde97 (H : Heap) (l : List AV) (o : Nat) : loadV Try.prog H 97 (.ele l o) = l[o]? := by rw [load_ele _ H 97 _ ty97 l o]; rfl
theorem zr97 : (tyOf Try.prog 97).bind (fun ty => ty.zero) = some [.nilFunc] := by rw [ty97]; rfl
theorem ldp111 (H : Heap) (b o : Nat) : loadV Try.prog H 111 (.ptr b o) = (hget H b).bind fun k => k[o]? := by rw [load_ptr _ H 111 _ ty111 b o]; rfl
theorem lde111 (H : Heap) (l : List AV) (o : Nat) : loadV Try.prog H 111 (.ele l o) = l[o]? := by rw [load_ele _ H 111 _ ty111 l o]; rfl
theorem zr111 : (tyOf Try.prog 111).bind (fun ty => ty.zero) = some [.int .u64 0] := by rw [ty111]; rfl
theorem ldp116 (H : Heap) (b o : Nat) : loadV Try.prog H 116 (.ptr b o) = (hget H b).bind fun k => partL { size := 2, bytes := 16, agg := true, k := .struct [(0, 2), (1, 111)], zero := some [.int .i64 0, .int .u64 0] } k o := load_ptr _ H 116 _ ty116 b o
theorem lde116 (H : Heap) (l : List AV) (o : Nat) : loadV Try.prog H 116 (.ele l o) = partL { size := 2, bytes := 16, agg := true, k := .struct [(0, 2), (1, 111)], zero := some [.int .i64 0, .int .u64 0] } l o := load_ele _ H 116 _ ty116 l o
theorem pl116 (l : List AV) (o : Nat) (h : o + 2 ≤ l.length) : partL { size := 2, bytes := 16, agg := true, k := .struct [(0, 2), (1, 111)], zero := some [.int .i64 0, .int .u64 0] } l o = some (.agg ((l.drop o).take 2)) := by rw [partL_agg _ _ _ rfl, if_pos h]
theorem zr116 : (tyOf Try.prog 116).bind (fun ty => ty.zero) = some [.int .i64 0, .int .u64 0] := by rw [ty116]; rfl
theorem fap116_0 (b o : Nat) : fieldAddrV Try.prog 116 (.ptr b o) 0 = some (.ptr b (o)) := fa_ptr _ 116 _ tk116 b o 0 0 2 _ rfl ty2 (by decide)
theorem fae116_0 (l : List AV) (o : Nat) : fieldAddrV Try.prog 116 (.ele l o) 0 = some (.ele l (o)) := fa_ele _ 116 _ tk116 l o 0 0 2 _ rfl ty2 (by decide)
theorem fd116_0 (l : List AV) : fieldV Try.prog 116 (.agg l) 0 = l[0]? := by rw [fd_agg _ 116 _ tk116 l 0 0 2 _ rfl ty2]; rfl
theorem fap116_1 (b o : Nat) : fieldAddrV Try.prog 116 (.ptr b o) 1 = some (.ptr b (o + 1)) := fa_ptr _ 116 _ tk116 b o 1 1 111 _ rfl ty111 (by decide)
theorem fae116_1 (l : List AV) (o : Nat) : fieldAddrV Try.prog 116 (.ele l o) 1 = some (.ele l (o + 1)) := fa_ele _ 116 _ tk116 l o 1 1 111 _ rfl ty111 (by decide)
theorem fd116_1 (l : List AV) : fieldV Try.prog 116 (.agg l) 1 = l[1]? := by rw [fd_agg _ 116 _ tk116 l 1 1 111 _ rfl ty111]; rfl
theorem ldp128 (H : Heap) (b o : Nat) : loadV Try.prog H 128 (.ptr b o) = (hget H b).bind fun k => partL { size := 4, bytes := 32, agg := true, k := .array 4 3, zero := some [.int .i64 0, .int .i64 0, .int .i64 0, .int .i64 0] } k o := load_ptr _ H 128 _ ty128 b o
theorem lde128 (H : Heap) (l : List AV) (o : Nat) : loadV Try.prog H 128 (.ele l o) = partL { size := 4, bytes := 32, agg := true, k := .array 4 3, zero := some [.int .i64 0, .int .i64 0, .int .i64 0, .int .i64 0] } l o := load_ele _ H 128 _ ty128 l o
theorem pl128 (l : List AV) (o : Nat) (h : o + 4 ≤ l.length) : partL { size := 4, bytes := 32, agg := true, k := .array 4 3, zero := some [.int .i64 0, .int .i64 0, .int .i64 0, .int .i64 0] } l o = some (.agg ((l.drop o).take 4)) := by rw [partL_agg _ _ _ rfl, if_pos h]
theorem zr128 : (tyOf Try.prog 128).bind (fun ty => ty.zero) = some [.int .i64 0, .int .i64 0, .int .i64 0, .int .i64 0] := by rw [ty128]; rfl
theorem ldp141 (H : Heap) (b o : Nat) : loadV Try.prog H 141 (.ptr b o) = (hget H b).bind fun k => partL { size := 4, bytes := 32, agg := true, k := .array 4 111, zero := some [.int .u64 0, .int .u64 0, .int .u64 0, .int .u64 0] } k o := load_ptr _ H 141 _ ty141 b o
theorem lde141 (H : Heap) (l : List AV) (o : Nat) : loadV Try.prog H 141 (.ele l o) = partL { size := 4, bytes := 32, agg := true, k := .array 4 111, zero := some [.int .u64 0, .int .u64 0, .int .u64 0, .int .u64 0] } l o := load_ele _ H 141 _ ty141 l o
theorem pl141 (l : List AV) (o : Nat) (h : o + 4 ≤ l.length) : partL { size := 4, bytes := 32, agg := true, k := .array 4 111, zero := some [.int .u64 0, .int .u64 0, .int .u64 0, .int .u64 0] } l o = some (.agg ((l.drop o).take 4)) := by rw [partL_agg _ _ _ rfl, if_pos h]
theorem zr141 : (tyOf Try.prog 141).bind (fun ty => ty.zero) = some [.int .u64 0, .int .u64 0, .int .u64 0, .int .u64 0] := by rw [ty141]; rfl
theorem ldp146 (H : Heap) (b o : Nat) : loadV Try.prog H 146 (.ptr b o) = (hget H b).bind fun k => partL { size := 8, bytes := 64, agg := true, k := .array 8 111, zero := some [.int .u64 0, .int .u64 0, .int .u64 0, .int .u64 0, .int .u64 0, .int .u64 0, .int .u64 0, .int .u64 0] } k o := load_ptr _ H 146 _ ty146 b o
theorem lde146 (H : Heap) (l : List AV) (o : Nat) : loadV Try.prog H 146 (.ele l o) = partL { size := 8, bytes := 64, agg := true, k := .array 8 111, zero := some [.int .u64 0, .int .u64 0, .int .u64 0, .int .u64 0, .int .u64 0, .int .u64 0, .int .u64 0, .int .u64 0] } l o := load_ele _ H 146 _ ty146 l o
theorem pl146 (l : List AV) (o : Nat) (h : o + 8 ≤ l.length) : partL { size := 8, bytes := 64, agg := true, k := .array 8 111, zero := some [.int .u64 0, .int .u64 0, .int .u64 0, .int .u64 0, .int .u64 0, .int .u64 0, .int .u64 0, .int .u64 0] } l o = some (.agg ((l.drop o).take 8)) := by rw [partL_agg _ _ _ rfl, if_pos h]
theorem zr146 : (tyOf Try.prog 146).bind (fun ty => ty.zero) = some [.int .u64 0, .int .u64 0, .int .u64 0, .int .u64 0, .int .u64 0, .int .u64 0, .int .u64 0, .int .u64 0] := by rw [ty146]; rfl

attribute [go_sem] ldp1 lde1 zr1 ldp2 lde2 zr2 ldp3 lde3 zr3 ldp4 lde4 zr4 beq4 bne4 ldp5 lde5 zr5 ldp6 lde6 zr6
  ldp7 lde7 pl7 zr7 fap7_0 fae7_0 fd7_0 fap7_1 fae7_1 fd7_1 fap7_2 fae7_2 fd7_2 fap7_3 fae7_3 fd7_3 ldp8 lde8 pl8 zr8
  fap8_0 fae8_0 fd8_0 fap8_1 fae8_1 fd8_1 fap8_2 fae8_2 fd8_2 fap8_3 fae8_3 fd8_3 ldp9 lde9 zr9 lnt9 ldp22 lde22 zr22 ias22
  iao22 lns22 lno22 lnn22 ldp23 lde23 zr23 ias23 iao23 lns23 lno23 lnn23 ldp25 lde25 zr25 ias25 iao25 lns25 lno25 lnn25
  ldp27 lde27 pl27 zr27 fap27_0 fae27_0 fd27_0 fap27_1 fae27_1 fd27_1 ldp28 lde28 zr28 ldp33 lde33 pl33 zr33 ldp35 lde35 pl35
  zr35 fap35_0 fae35_0 fd35_0 fap35_1 fae35_1 fd35_1 fap35_2 fae35_2 fd35_2 ldp42 lde42 zr42 ias42 iao42 lns42 lno42 lnn42 ldp47 lde47
  pl47 zr47 fap47_0 fae47_0 fd47_0 fap47_1 fae47_1 fd47_1 fap47_2 fae47_2 fd47_2 fap47_3 fae47_3 fd47_3 fap47_4 fae47_4 fd47_4 fap47_5 fae47_5 fd47_5
  fap47_6 fae47_6 fd47_6 fap47_7 fae47_7 fd47_7 fap47_8 fae47_8 fd47_8 fap47_9 fae47_9 fd47_9 ldp51 lde51 zr51 ias51 iao51 lns51 lno51 lnn51
  ldp53 lde53 pl53 zr53 fap53_0 fae53_0 fd53_0 fap53_1 fae53_1 fd53_1 fap53_2 fae53_2 fd53_2 fap53_3 fae53_3 fd53_3 ldp56 lde56 zr56 ias56
  iao56 lns56 lno56 lnn56 ldp57 lde57 zr57 ias57 iao57 lns57 lno57 lnn57 ldp61 lde61 pl61 zr61 fap61_0 fae61_0 fd61_0 fap61_1
  fae61_1 fd61_1 fap61_2 fae61_2 fd61_2 ldp67 lde67 pl67 zr67 fap67_0 fae67_0 fd67_0 fap67_1 fae67_1 fd67_1 fap67_2 fae67_2 fd67_2 fap67_3 fae67_3
  fd67_3 fap67_4 fae67_4 fd67_4 fap67_5 fae67_5 fd67_5 fap67_6 fae67_6 fd67_6 fap67_7 fae67_7 fd67_7 ldp69 lde69 zr69 ldp71 lde71 zr71 ldp77
  lde77 zr77 ias77 iao77 lns77 lno77 lnn77 ldp81 lde81 pl81 zr81 fap81_0 fae81_0 fd81_0 fap81_1 fae81_1 fd81_1 ldp91 lde91 zr91
  ldp97 lde97 zr97 ldp111 lde111 zr111 ldp116 lde116 pl116 zr116 fap116_0 fae116_0 fd116_0 fap116_1 fae116_1 fd116_1 ldp128 lde128 pl128 zr128
  ldp141 lde141 pl141 zr141 ldp146 lde146 pl146 zr146
end Go.Proofs.Ytfnapmdedmbdbaa
end
section
set_option linter.unusedVariables false
namespace Go.Proofs.Ytfnapmdedmbdbaa
open Go Go.Am
abbrev u6 (n : Int) : AV := .v (.int .u64 n)
/-- The wide integer with a value. -/
abbrev wv (x : Int) : AV := .agg [AV.i (x / 18446744073709551616), u6 (x % 18446744073709551616)]
def Fw (x : Int) : Prop := -170141183460469231731687303715884105728 ≤ x ∧ x ≤ 170141183460469231731687303715884105727
instance (x : Int) : Decidable (Fw x) := inferInstanceAs (Decidable (_ ∧ _))
def fS (n : Int) : Int × Bool := if Fw n then (n, true) else (0, false)
theorem fS_y {n : Int} (h : Fw n) : fS n = (n, true) := by rw [fS, if_pos h]
theorem fS_n {n : Int} (h : ¬ Fw n) : fS n = (0, false) := by rw [fS, if_neg h]
theorem wv_eq {n a b : Int} (h1 : a = n / 18446744073709551616) (h2 : b = n % 18446744073709551616) : AV.agg [AV.i a, u6 b] = wv n := by rw [h1, h2]
def ab (n : Int) : Int := if n < 0 then -n else n
theorem ab_neg {n : Int} (h : n < 0) : ab n = -n := by rw [ab, if_pos h]
theorem ab_pos {n : Int} (h : ¬ n < 0) : ab n = n := by rw [ab, if_neg h]
theorem ab_rng (n : Int) : 0 ≤ ab n := by unfold ab; split <;> omega
theorem mul_pos' {a b : Int} (ha : 0 ≤ a) (hb : 0 ≤ b) : 0 ≤ a * b := Int.mul_nonneg ha hb
theorem mul_le' {a b c d : Int} (ha : 0 ≤ a) (hc : a ≤ c) (hb : 0 ≤ b) (hd : b ≤ d) : a * b ≤ c * d := Int.mul_le_mul hc hd hb (by omega)
/-- A product, by the sizes and the signs of its factors. -/
theorem ab_mul (a b : Int) : (if (decide (a < 0) != decide (b < 0)) = true then -(ab a * ab b) else ab a * ab b) = a * b := by
  unfold ab
  by_cases h1 : a < 0 <;> by_cases h2 : b < 0 <;> simp [h1, h2] <;> grind
def cmpS (x y : Int) : Int := if x < y then -1 else if x = y then 0 else 1
def ftS (x : Int) : Int × Bool := if -9223372036854775808 ≤ x ∧ x ≤ 9223372036854775807 then (x, true) else (0, false)
def sg (neg : Bool) (m : Int) : Int := if neg = true then -m else m
theorem sg_t {neg : Bool} (h : neg = true) (m : Int) : sg neg m = -m := by rw [sg, if_pos h]
theorem sg_f {neg : Bool} (h : neg = false) (m : Int) : sg neg m = m := by rw [sg, h]; rfl
theorem tupW {a b n : Int} {p q : Bool} (h1 : a = n / 18446744073709551616) (h2 : b = n % 18446744073709551616) (hp : p = q) : AV.tup [AV.agg [AV.i a, u6 b], .v (.bool p)] = AV.tup [wv n, .v (.bool q)] := by rw [h1, h2, hp]
theorem tup2 {a c : Int} {p q : Bool} (h1 : a = c) (hp : p = q) : AV.tup [u6 a, .v (.bool p)] = AV.tup [u6 c, .v (.bool q)] := by rw [h1, hp]
theorem ab_le {a : Int} (h : -9223372036854775808 ≤ a ∧ a ≤ 9223372036854775807) : ab a ≤ 9223372036854775808 := by unfold ab; split <;> omega
theorem ab_fit {a b : Int} (ha : -9223372036854775808 ≤ a ∧ a ≤ 9223372036854775807) (hb : -9223372036854775808 ≤ b ∧ b ≤ 9223372036854775807) : Fw (a * b) := by
  have h1 := mul_le' (ab_rng a) (ab_le ha) (ab_rng b) (ab_le hb)
  have h2 := mul_pos' (ab_rng a) (ab_rng b)
  have h3 := ab_mul a b
  unfold Fw
  split at h3 <;> omega
/-! ### Operations -/
theorem wrap_u (n : Int) : IntKind.u64.wrap n = n % 18446744073709551616 := by simp [IntKind.wrap, IntKind.bits, IntKind.signed]
theorem cv2_22 (n : Int) : convV Try.prog 2 111 (.v (.int .i64 n)) = some (.v (.int .u64 (n % 18446744073709551616))) := by simp only [convV, ty2, tk111, wrap_u]
theorem cv3_22 (n : Int) : convV Try.prog 3 111 (.v (.int .i64 n)) = some (.v (.int .u64 (n % 18446744073709551616))) := by simp only [convV, ty3, tk111, wrap_u]
theorem cv22_2 (n : Int) : convV Try.prog 111 2 (.v (.int .u64 n)) = some (.v (.int .i64 ((n + 9223372036854775808) % 18446744073709551616 - 9223372036854775808))) := by
  simp only [convV, ty111, tk2]
  rw [IntKind.wrap_i64]
theorem un_xor (n : Int) (h0 : 0 ≤ n) (h1 : n ≤ 18446744073709551615) : unV .xor (.v (.int .u64 n)) = some (.v (.int .u64 (18446744073709551615 - n))) := by
  obtain ⟨m, rfl⟩ : ∃ m : Nat, n = (m : Int) := ⟨n.toNat, by omega⟩
  have e0 : IntKind.u64.max = 18446744073709551615 := rfl
  have es : IntKind.u64.signed = false := rfl
  simp only [unV, intBin, es, e0, Option.map_some, Bool.false_eq_true, if_false]
  congr 4
  have hb : IntKind.u64.bits = 64 := rfl
  rw [hb]
  have h2 : (BitVec.ofInt 64 (18446744073709551615 : Int) ^^^ BitVec.ofInt 64 (m : Int)).toNat = 18446744073709551615 - m := by
    have e1 : BitVec.ofInt 64 (18446744073709551615 : Int) = BitVec.allOnes 64 := by decide
    rw [e1, BitVec.allOnes_xor, BitVec.toNat_not, BitVec.toNat_ofInt]
    omega
  rw [h2, wrap_u]
  omega
theorem shr63 (t : TypeId) (k : IntKind) (n : Int) : binV Try.prog .shr t (.v (.int .i64 n)) (.v (.int k 63)) = some (.v (.int .i64 (n / 9223372036854775808))) := by
  simp only [binV, shiftBin]
  rw [if_neg (by decide)]
  simp only [Option.map_some]
  rw [show (2 : Int) ^ min (63 : Int).toNat IntKind.i64.bits = 9223372036854775808 from rfl, Int.fdiv_eq_ediv_of_nonneg _ (by decide)]
theorem eqw (a b c d : Int) : binV Try.prog .eql 116 (.agg [AV.i a, u6 b]) (.agg [AV.i c, u6 d]) = some (.v (.bool (a == c && b == d))) := by
  simp [binV, aggEq, eqOk116, tk116, fieldsEq, scalEq, kOf, ty2, ty111]
  cases (a == c) <;> cases (b == d) <;> rfl
theorem new_ (a b c d : Int) : binV Try.prog .neq 116 (.agg [AV.i a, u6 b]) (.agg [AV.i c, u6 d]) = some (.v (.bool (!(a == c && b == d)))) := by
  simp [binV, aggEq, eqOk116, tk116, fieldsEq, scalEq, kOf, ty2, ty111]
  cases (a == c) <;> cases (b == d) <;> rfl
set_option maxRecDepth 20000 in
theorem bld0 : buildV Try.prog 116 [] = some (.agg [AV.i 0, u6 0]) := by simp only [buildV, ty116]; rfl
theorem bld1 (a b : Int) : buildV Try.prog 116 [(0, AV.i a), (1, u6 b)] = some (.agg [AV.i a, u6 b]) := by
  simp only [buildV, ty116, places, ty2, ty111]; rfl
theorem bldL (b : Int) : buildV Try.prog 116 [(1, u6 b)] = some (.agg [AV.i 0, u6 b]) := by
  simp only [buildV, ty116, places, ty2, ty111]; rfl
theorem bldH (a : Int) : buildV Try.prog 116 [(0, AV.i a)] = some (.agg [AV.i a, u6 0]) := by
  simp only [buildV, ty116, places, ty2, ty111]; rfl
theorem take2 (x y : AV) : List.take 2 [x, y] = [x, y] := rfl
theorem sL2 (x y c d : AV) : setL [x, y] 0 [c, d] = [c, d] := rfl
theorem sL0 (x y c : AV) : setL [x, y] 0 [c] = [c, y] := rfl
theorem sL1 (x y c : AV) : setL [x, y] 1 [c] = [x, c] := rfl
attribute [go_sem] sL2 sL0 sL1 wrap_u cv2_22 cv3_22 cv22_2 un_xor shr63 eqw new_ bld0 bld1 bldL bldH take2
end Go.Proofs.Ytfnapmdedmbdbaa
end
section
set_option linter.unusedVariables false
set_option linter.unusedSimpArgs false
namespace Go.Proofs.Ytfnapmdedmbdbaa
open Go Go.Am
structure St where
  (tm pl wn sh ls pt rf bf ra ba : Int)
deriving DecidableEq
def inS (n : Int) : Prop := 0 ≤ n ∧ n ≤ 1048576
instance (n : Int) : Decidable (inS n) := by unfold inS; exact inferInstance
def okS (s : St) : Prop := inS s.rf ∧ inS s.bf ∧ inS s.ra ∧ inS s.ba
instance (s : St) : Decidable (okS s) := by unfold okS inS; exact inferInstance
def one (n : Int) : Int := if n = 0 then 1 else n
def nil0 (n m : Int) : Int := if n = 0 then 0 else m
theorem nil0_y {n m : Int} (h : n = 0) : nil0 n m = 0 := if_pos h
theorem nil0_n {n m : Int} (h : ¬ n = 0) : nil0 n m = m := if_neg h
theorem one_y {n : Int} (h : n = 0) : one n = 1 := if_pos h
theorem one_n {n : Int} (h : ¬ n = 0) : one n = n := if_neg h
def rxn (s : St) : Int := nil0 s.bf s.rf * one s.ba - nil0 s.ba s.ra * one s.bf
def rxd (s : St) : Int := one s.bf * one s.ba
theorem one_rng {n : Int} (h : inS n) : 1 ≤ one n ∧ one n ≤ 1048576 := by unfold inS at h; unfold one; split <;> omega
theorem nil0_rng {n m : Int} (h : inS m) : 0 ≤ nil0 n m ∧ nil0 n m ≤ 1048576 := by unfold inS at h; unfold nil0; split <;> omega
theorem mul_rng {a b : Int} (ha : 0 ≤ a ∧ a ≤ 1048576) (hb : 0 ≤ b ∧ b ≤ 1048576) : 0 ≤ a * b ∧ a * b ≤ 1099511627776 :=
  ⟨Int.mul_nonneg ha.1 hb.1, by have := Int.mul_le_mul ha.2 hb.2 hb.1 (by omega : (0 : Int) ≤ 1048576); omega⟩
theorem rxd_rng {s : St} (h : okS s) : 1 ≤ rxd s ∧ rxd s ≤ 1099511627776 := by
  obtain ⟨h1, h2, h3, h4⟩ := h
  have a := one_rng h2
  have b := one_rng h4
  have c := mul_rng (a := one s.bf) (b := one s.ba) (by omega) (by omega)
  have d : 0 < one s.bf * one s.ba := Int.mul_pos (by omega) (by omega)
  unfold rxd
  omega
theorem rxn_rng {s : St} (h : okS s) : -1099511627776 ≤ rxn s ∧ rxn s ≤ 1099511627776 := by
  obtain ⟨h1, h2, h3, h4⟩ := h
  have a := one_rng h2
  have b := one_rng h4
  have c := mul_rng (a := nil0 s.bf s.rf) (b := one s.ba) (nil0_rng h1) (by omega)
  have d := mul_rng (a := nil0 s.ba s.ra) (b := one s.bf) (nil0_rng h3) (by omega)
  unfold rxn
  omega
def crS (a b : St) : Int := if okS a ∧ okS b then cmpS (rxn a * rxd b) (rxn b * rxd a) else 0
theorem cmpS_anti (x y : Int) : cmpS y x = -cmpS x y := by
  unfold cmpS
  split <;> split <;> first | omega | (split <;> omega)
theorem crS_anti (a b : St) : crS b a = -crS a b := by
  unfold crS
  by_cases h : okS a ∧ okS b
  · rw [if_pos h, if_pos ⟨h.2, h.1⟩, cmpS_anti]
  · rw [if_neg h, if_neg fun h1 => h ⟨h1.2, h1.1⟩]; rfl
def bf9 (p : Prop) [Decidable p] : Int := if p then -1 else 1
def cmS (a b : St) : Int :=
  if a.pt ≠ b.pt then bf9 (a.pt > b.pt) else if a.wn ≠ b.wn then bf9 (a.wn > b.wn) else if crS a b ≠ 0 then -crS a b else if a.tm ≠ b.tm then bf9 (a.tm < b.tm) else 0
theorem cmS_anti (a b : St) : cmS b a = -cmS a b := by
  have h := crS_anti a b
  unfold cmS bf9
  by_cases h1 : a.pt = b.pt
  · by_cases h2 : a.wn = b.wn
    · by_cases h3 : crS a b = 0
      · have h4 : crS b a = 0 := by omega
        by_cases h5 : a.tm = b.tm
        · simp [h1, h2, h3, h4, h5]
        · have : ¬ b.tm = a.tm := fun e => h5 e.symm
          simp only [h1, h2, h3, h4, ne_eq, not_true_eq_false, if_false, h5, this, not_false_eq_true, if_true]
          split <;> split <;> omega
      · have h4 : ¬ crS b a = 0 := by omega
        simp only [h1, h2, h3, h4, ne_eq, not_true_eq_false, if_false, not_false_eq_true, if_true]
        omega
    · have : ¬ b.wn = a.wn := fun e => h2 e.symm
      simp only [h1, h2, this, ne_eq, not_true_eq_false, if_false, not_false_eq_true, if_true]
      split <;> split <;> omega
  · have : ¬ b.pt = a.pt := fun e => h1 e.symm
    simp only [h1, this, ne_eq, not_false_eq_true, if_true]
    split <;> split <;> omega
/-- Two fractions in order, a third behind them. -/
theorem fr_le {a b c d e f : Int} (hd : 0 < d) (hb : 0 ≤ b) (hf : 0 ≤ f) (h1 : a * d ≤ c * b) (h2 : c * f ≤ e * d) : a * f ≤ e * b := by
  have k1 := Int.mul_le_mul_of_nonneg_right h1 hf
  have k2 := Int.mul_le_mul_of_nonneg_right h2 hb
  have k3 : a * f * d ≤ e * b * d := by
    have e1 : a * f * d = a * d * f := by rw [Int.mul_assoc, Int.mul_comm f d, ← Int.mul_assoc]
    have e2 : e * b * d = e * d * b := by rw [Int.mul_assoc, Int.mul_comm b d, ← Int.mul_assoc]
    have e3 : c * b * f = c * f * b := by rw [Int.mul_assoc, Int.mul_comm b f, ← Int.mul_assoc]
    omega
  exact Int.le_of_mul_le_mul_right k3 hd
theorem fr_lt {a b c d e f : Int} (hd : 0 < d) (hb : 0 < b) (hf : 0 ≤ f) (h1 : a * d ≤ c * b) (h2 : c * f < e * d) : a * f < e * b := by
  have k1 := Int.mul_le_mul_of_nonneg_right h1 hf
  have k2 := Int.mul_lt_mul_of_pos_right h2 hb
  have k3 : a * f * d < e * b * d := by
    have e1 : a * f * d = a * d * f := by rw [Int.mul_assoc, Int.mul_comm f d, ← Int.mul_assoc]
    have e2 : e * b * d = e * d * b := by rw [Int.mul_assoc, Int.mul_comm b d, ← Int.mul_assoc]
    have e3 : c * b * f = c * f * b := by rw [Int.mul_assoc, Int.mul_comm b f, ← Int.mul_assoc]
    omega
  exact Int.lt_of_mul_lt_mul_right k3 (Int.le_of_lt hd)
theorem fr_lt' {a b c d e f : Int} (hd : 0 < d) (hb : 0 ≤ b) (hf : 0 < f) (h1 : a * d < c * b) (h2 : c * f ≤ e * d) : a * f < e * b := by
  have k1 := Int.mul_lt_mul_of_pos_right h1 hf
  have k2 := Int.mul_le_mul_of_nonneg_right h2 hb
  have k3 : a * f * d < e * b * d := by
    have e1 : a * f * d = a * d * f := by rw [Int.mul_assoc, Int.mul_comm f d, ← Int.mul_assoc]
    have e2 : e * b * d = e * d * b := by rw [Int.mul_assoc, Int.mul_comm b d, ← Int.mul_assoc]
    have e3 : c * b * f = c * f * b := by rw [Int.mul_assoc, Int.mul_comm b f, ← Int.mul_assoc]
    omega
  exact Int.lt_of_mul_lt_mul_right k3 (Int.le_of_lt hd)
theorem cmpS_neg {x y : Int} : cmpS x y ≤ 0 ↔ x ≤ y := by
  unfold cmpS
  split
  · constructor <;> intro <;> omega
  · split <;> constructor <;> intro <;> omega
theorem cmpS_lt {x y : Int} : cmpS x y < 0 ↔ x < y := by
  unfold cmpS
  split
  · constructor <;> intro <;> omega
  · split <;> constructor <;> intro <;> omega
theorem crS_ok {a b : St} (ha : okS a) (hb : okS b) : crS a b = cmpS (rxn a * rxd b) (rxn b * rxd a) := if_pos ⟨ha, hb⟩
theorem crS_le {a b c : St} (ha : okS a) (hb : okS b) (hc : okS c) (h1 : crS a b ≤ 0) (h2 : crS b c ≤ 0) : crS a c ≤ 0 := by
  rw [crS_ok ha hb, cmpS_neg] at h1
  rw [crS_ok hb hc, cmpS_neg] at h2
  rw [crS_ok ha hc, cmpS_neg]
  have := rxd_rng ha; have := rxd_rng hb; have := rxd_rng hc
  exact fr_le (d := rxd b) (by omega) (by omega) (by omega) h1 h2
theorem crS_lt {a b c : St} (ha : okS a) (hb : okS b) (hc : okS c) (h1 : crS a b ≤ 0) (h2 : crS b c < 0) : crS a c < 0 := by
  rw [crS_ok ha hb, cmpS_neg] at h1
  rw [crS_ok hb hc, cmpS_lt] at h2
  rw [crS_ok ha hc, cmpS_lt]
  have := rxd_rng ha; have := rxd_rng hb; have := rxd_rng hc
  exact fr_lt (d := rxd b) (by omega) (by omega) (by omega) h1 h2
theorem crS_lt' {a b c : St} (ha : okS a) (hb : okS b) (hc : okS c) (h1 : crS a b < 0) (h2 : crS b c ≤ 0) : crS a c < 0 := by
  rw [crS_ok ha hb, cmpS_lt] at h1
  rw [crS_ok hb hc, cmpS_neg] at h2
  rw [crS_ok ha hc, cmpS_lt]
  have := rxd_rng ha; have := rxd_rng hb; have := rxd_rng hc
  exact fr_lt' (d := rxd b) (by omega) (by omega) (by omega) h1 h2
/-- The order of places, spelled out. -/
theorem cmS_le (a b : St) : cmS a b ≤ 0 ↔ a.pt > b.pt ∨ (a.pt = b.pt ∧ (a.wn > b.wn ∨ (a.wn = b.wn ∧ (crS b a < 0 ∨ (crS b a ≤ 0 ∧ crS a b ≤ 0 ∧ a.tm ≤ b.tm))))) := by
  have h := crS_anti a b
  unfold cmS bf9
  by_cases h1 : a.pt = b.pt
  · by_cases h2 : a.wn = b.wn
    · by_cases h3 : crS a b = 0
      · by_cases h5 : a.tm = b.tm
        · simp only [h1, h2, h3, h5, ne_eq, not_true_eq_false, if_false, true_and, false_and, or_false]
          constructor <;> intro <;> omega
        · simp only [h1, h2, h3, ne_eq, not_true_eq_false, if_false, h5, not_false_eq_true, if_true, true_and, false_and, or_false]
          split <;> constructor <;> intro <;> omega
      · simp only [h1, h2, h3, ne_eq, not_true_eq_false, if_false, not_false_eq_true, if_true, true_and, false_and, or_false]
        constructor <;> intro <;> omega
    · simp only [h1, h2, ne_eq, not_true_eq_false, if_false, not_false_eq_true, if_true, true_and, false_and, or_false]
      split <;> constructor <;> intro <;> omega
  · simp only [h1, ne_eq, not_false_eq_true, if_true, true_and, false_and, or_false]
    split <;> constructor <;> intro <;> omega
theorem cmS_trans {a b c : St} (ha : okS a) (hb : okS b) (hc : okS c) (h1 : cmS a b ≤ 0) (h2 : cmS b c ≤ 0) : cmS a c ≤ 0 := by
  rw [cmS_le] at h1 h2 ⊢
  have k1 := crS_lt (a := c) (b := b) (c := a) hc hb ha
  have k2 := crS_lt' (a := c) (b := b) (c := a) hc hb ha
  have k3 := crS_le (a := c) (b := b) (c := a) hc hb ha
  have k4 := crS_le (a := a) (b := b) (c := c) ha hb hc
  rcases h1 with h1 | ⟨e1, h1⟩
  · rcases h2 with h2 | ⟨e2, h2⟩ <;> exact .inl (by omega)
  · rcases h2 with h2 | ⟨e2, h2⟩
    · exact .inl (by omega)
    · refine .inr ⟨by omega, ?_⟩
      rcases h1 with h1 | ⟨f1, h1⟩
      · rcases h2 with h2 | ⟨f2, h2⟩ <;> exact .inl (by omega)
      · rcases h2 with h2 | ⟨f2, h2⟩
        · exact .inl (by omega)
        · refine .inr ⟨by omega, ?_⟩
          rcases h1 with h1 | ⟨g1, g2, g3⟩
          · rcases h2 with h2 | ⟨h2, _, _⟩
            · exact .inl (k1 (by omega) h1)
            · exact .inl (k1 h2 h1)
          · rcases h2 with h2 | ⟨h2, h3, h4⟩
            · exact .inl (k2 h2 g1)
            · exact .inr ⟨k3 h2 g1, k4 g2 h3, by omega⟩
/-! ### What the walks meet -/
def rtN (z : St) : Int := if okS z then rxn z else 0
def rtD (z : St) : Int := if okS z then rxd z else 1
theorem rtN_y {z : St} (h : okS z) : rtN z = rxn z := if_pos h
theorem rtD_y {z : St} (h : okS z) : rtD z = rxd z := if_pos h
theorem rtN_n {z : St} (h : ¬ okS z) : rtN z = 0 := if_neg h
theorem rtD_n {z : St} (h : ¬ okS z) : rtD z = 1 := if_neg h
theorem rt_rng (z : St) : (-1099511627776 ≤ rtN z ∧ rtN z ≤ 1099511627776) ∧ 1 ≤ rtD z ∧ rtD z ≤ 1099511627776 := by
  by_cases h : okS z
  · rw [rtN_y h, rtD_y h]; exact ⟨rxn_rng h, rxd_rng h⟩
  · rw [rtN_n h, rtD_n h]; omega
theorem prod_rng {z : St} (h : okS z) : (0 ≤ nil0 z.bf z.rf * one z.ba ∧ nil0 z.bf z.rf * one z.ba ≤ 1099511627776) ∧ (0 ≤ nil0 z.ba z.ra * one z.bf ∧ nil0 z.ba z.ra * one z.bf ≤ 1099511627776) ∧ 1 ≤ one z.bf * one z.ba ∧ one z.bf * one z.ba ≤ 1099511627776 := by
  have hd := rxd_rng h
  obtain ⟨h1, h2, h3, h4⟩ := h
  have a := one_rng h2
  have b := one_rng h4
  exact ⟨mul_rng (nil0_rng h1) (by omega), mul_rng (nil0_rng h3) (by omega), hd⟩
def gt4 (z : St) (j : Nat) : Int := [z.rf, z.bf, z.ra, z.ba].getD j 0
theorem gt4_ok {z : St} (h : ∀ j, j < 4 → inS (gt4 z j)) : okS z := ⟨h 0 (by decide), h 1 (by decide), h 2 (by decide), h 3 (by decide)⟩
theorem gt4_no {z : St} {j : Nat} (hj : j < 4) (h : ¬ inS (gt4 z j)) : ¬ okS z := fun hz => by
  obtain ⟨h1, h2, h3, h4⟩ := hz
  have : j = 0 ∨ j = 1 ∨ j = 2 ∨ j = 3 := by omega
  rcases this with rfl | rfl | rfl | rfl
  · exact h h1
  · exact h h2
  · exact h h3
  · exact h h4
theorem crS_rng (y z : St) : -1 ≤ crS y z ∧ crS y z ≤ 1 := by
  unfold crS cmpS
  split
  · split
    · omega
    · split <;> omega
  · omega
theorem cm_pt {y z : St} (h : ¬ y.pt = z.pt) : cmS y z = if decide (z.pt < y.pt) = true then -1 else 1 := by
  simp only [cmS, bf9, h, ne_eq, not_false_eq_true, if_true, decide_eq_true_eq, gt_iff_lt]
theorem cm_wn {y z : St} (h : y.pt = z.pt) (h1 : ¬ y.wn = z.wn) : cmS y z = if decide (z.wn < y.wn) = true then -1 else 1 := by
  simp only [cmS, bf9, h, h1, ne_eq, not_true_eq_false, if_false, not_false_eq_true, if_true, decide_eq_true_eq, gt_iff_lt]
theorem cm_cr {y z : St} (h : y.pt = z.pt) (h1 : y.wn = z.wn) (h2 : ¬ crS y z = 0) : cmS y z = -crS y z := by
  simp only [cmS, bf9, h, h1, h2, ne_eq, not_true_eq_false, if_false, not_false_eq_true, if_true]
theorem cm_cr0 {y z : St} (h : y.pt = z.pt) (h1 : y.wn = z.wn) (h2 : ¬ crS y z = 0) : cmS y z = 0 - crS y z := by rw [cm_cr h h1 h2]; omega
theorem cm_cr' {y z : St} (h : y.pt = z.pt) (h1 : y.wn = z.wn) (h2 : ¬ crS y z = 0) : cmS y z = if decide (0 < crS y z) = true then -1 else 1 := by
  have := crS_rng y z
  rw [cm_cr h h1 h2]
  simp only [decide_eq_true_eq]
  split <;> omega
theorem cm_tm {y z : St} (h : y.pt = z.pt) (h1 : y.wn = z.wn) (h2 : crS y z = 0) (h3 : ¬ y.tm = z.tm) : cmS y z = if decide (y.tm < z.tm) = true then -1 else 1 := by
  simp only [cmS, bf9, h, h1, h2, h3, ne_eq, not_true_eq_false, if_false, not_false_eq_true, if_true, decide_eq_true_eq]
theorem cm_0 {y z : St} (h : y.pt = z.pt) (h1 : y.wn = z.wn) (h2 : crS y z = 0) (h3 : y.tm = z.tm) : cmS y z = 0 := by
  simp only [cmS, bf9, h, h1, h2, h3, ne_eq, not_true_eq_false, if_false]
/-- A standing in the machine. -/
abbrev stL (z : St) : List AV := [AV.i z.tm, AV.i z.pl, AV.i z.wn, AV.i z.sh, AV.i z.ls, AV.i z.pt, AV.i z.rf, AV.i z.bf, AV.i z.ra, AV.i z.ba]
abbrev stA (z : St) : AV := .agg (stL z)
theorem ix77 (z : St) (i : Nat) (h : i < 4) : indexV Try.prog 128 (.agg [AV.i z.rf, AV.i z.bf, AV.i z.ra, AV.i z.ba]) (AV.i (i : Int)) = some (AV.i (gt4 z i)) := by
  have : i = 0 ∨ i = 1 ∨ i = 2 ∨ i = 3 := by omega
  simp only [indexV, tk128, ty3]
  rcases this with rfl | rfl | rfl | rfl <;> rfl
theorem bld77 (a b c d : Int) : buildV Try.prog 128 [(0, AV.i a), (1, AV.i b), (2, AV.i c), (3, AV.i d)] = some (.agg [AV.i a, AV.i b, AV.i c, AV.i d]) := by kernel_rfl
attribute [go_sem] bld77
end Go.Proofs.Ytfnapmdedmbdbaa
end
section
set_option linter.unusedVariables false
namespace Go.Proofs.Ytfnapmdedmbdbaa
open Go Go.Am Go.Sort
abbrev SO := {z : St // okS z}
instance : Inhabited SO := ⟨⟨⟨0, 0, 0, 0, 0, 0, 0, 0, 0, 0⟩, by decide⟩⟩
def cmO (x y : SO) : Int := cmS x.1 y.1
def encS (z : SO) : List Value := [.int .i64 z.1.tm, .int .i64 z.1.pl, .int .i64 z.1.wn, .int .i64 z.1.sh, .int .i64 z.1.ls, .int .i64 z.1.pt, .int .i64 z.1.rf, .int .i64 z.1.bf, .int .i64 z.1.ra, .int .i64 z.1.ba]
theorem cmS_self (x : St) : cmS x x = 0 := by have := cmS_anti x x; omega
theorem cmS_zero {x y : St} (h : cmS x y = 0) : x.tm = y.tm := by
  have h0 := cmS_anti x y
  have h1 := (cmS_le x y).1 (by omega)
  have h2 := (cmS_le y x).1 (by omega)
  have h3 := crS_anti x y
  omega
theorem lt_iff (x y : SO) : ltOf cmO x y = true ↔ cmS x.1 y.1 < 0 := by unfold ltOf cmO; simp
theorem lt_not (x y : SO) : ltOf cmO x y = false ↔ cmS y.1 x.1 ≤ 0 := by
  have := cmS_anti x.1 y.1
  unfold ltOf cmO
  simp
  omega
theorem swoS : SWO (ltOf cmO) where
  irrefl x := by rw [lt_not, cmS_self]; omega
  trans x y z h1 h2 := by
    rw [lt_iff] at *
    have a := cmS_trans x.2 y.2 z.2 (by omega) (by omega)
    rcases Int.lt_or_eq_of_le a with h | h
    · exact h
    · have b := cmS_trans z.2 x.2 y.2 (by have := cmS_anti x.1 z.1; omega) (by omega : cmS x.1 y.1 ≤ 0)
      have := cmS_anti y.1 z.1
      omega
  ntrans x y z h1 h2 := by
    rw [lt_not] at *
    exact cmS_trans z.2 y.2 x.2 h2 h1
/-- A standing laid into a row that is read from its end. -/
def insR (s : SO) : List SO → List SO
  | [] => [s]
  | a :: r => if cmS s.1 a.1 < 0 then a :: insR s r else s :: a :: r
def sortL (ps : List SO) : List SO := ps.foldl (fun o s => (insR s o.reverse).reverse) []
theorem insR_perm (s : SO) : ∀ l, (insR s l).Perm (s :: l)
  | [] => List.Perm.refl _
  | a :: r => by
    unfold insR
    split
    · exact ((insR_perm s r).cons a).trans (List.Perm.swap s a r)
    · exact List.Perm.refl _
theorem insR_sorted (s : SO) : ∀ l : List SO, l.Pairwise (fun x y => cmO y x ≤ 0) → (insR s l).Pairwise (fun x y => cmO y x ≤ 0)
  | [], _ => List.pairwise_singleton _ _
  | a :: r, h => by
    have ha := List.pairwise_cons.mp h
    unfold insR
    split
    · rename_i hs
      refine List.pairwise_cons.mpr ⟨fun y hy => ?_, insR_sorted s r ha.2⟩
      rcases List.mem_cons.mp ((insR_perm s r).mem_iff.mp hy) with rfl | hy
      · exact Int.le_of_lt hs
      · exact ha.1 y hy
    · rename_i hs
      have h0 : cmO a s ≤ 0 := by have := cmS_anti s.1 a.1; unfold cmO; omega
      refine List.pairwise_cons.mpr ⟨fun y hy => ?_, h⟩
      rcases List.mem_cons.mp hy with rfl | hy
      · exact h0
      · exact cmS_trans y.2 a.2 s.2 (ha.1 y hy) h0
theorem fold_perm : ∀ (ps o : List SO), (ps.foldl (fun o s => (insR s o.reverse).reverse) o).Perm (o ++ ps)
  | [], o => by simp
  | p :: ps, o => by
    rw [List.foldl_cons]
    refine (fold_perm ps _).trans ?_
    refine (List.Perm.append_right ps ((List.reverse_perm _).trans ((insR_perm p _).trans ((List.reverse_perm o).cons p)))).trans ?_
    exact List.perm_middle.symm
theorem fold_sorted : ∀ (ps o : List SO), o.Pairwise (fun x y => cmO x y ≤ 0) → (ps.foldl (fun o s => (insR s o.reverse).reverse) o).Pairwise (fun x y => cmO x y ≤ 0)
  | [], o, h => h
  | p :: ps, o, h => by
    rw [List.foldl_cons]
    refine fold_sorted ps _ ?_
    rw [List.pairwise_reverse]
    exact insR_sorted p _ (by rw [List.pairwise_reverse]; exact h)
theorem sortL_perm (ps : List SO) : (sortL ps).Perm ps := fold_perm ps []
theorem sortL_sorted (ps : List SO) : (sortL ps).Pairwise (fun x y => cmO x y ≤ 0) := fold_sorted ps [] List.Pairwise.nil
theorem nodup_tm {l : List SO} (h : (l.map (·.1.tm)).Nodup) {x y : SO} (hx : x ∈ l) (hy : y ∈ l) (e : x.1.tm = y.1.tm) : x = y := by
  induction l with
  | nil => cases hx
  | cons a r ih =>
    rw [List.map_cons, List.nodup_cons] at h
    rcases List.mem_cons.mp hx with h1 | h1 <;> rcases List.mem_cons.mp hy with h2 | h2
    · rw [h1, h2]
    · subst h1
      exact (h.1 (List.mem_map.mpr ⟨y, h2, e.symm⟩)).elim
    · subst h2
      exact (h.1 (List.mem_map.mpr ⟨x, h1, e⟩)).elim
    · exact ih h.2 h1 h2
theorem sort_unique {l l' : List SO} (hp : l'.Perm l) (hs : l'.Pairwise (fun x y => cmO x y ≤ 0)) (hn : (l.map (·.1.tm)).Nodup) : l' = sortL l := by
  refine List.Perm.eq_of_pairwise (le := fun x y => cmO x y ≤ 0) (fun a b ha hb h1 h2 => ?_) hs (sortL_sorted l) (hp.trans (sortL_perm l).symm)
  refine nodup_tm hn (hp.mem_iff.mp ha) ((sortL_perm l).mem_iff.mp hb) (cmS_zero ?_)
  have := cmS_anti a.1 b.1
  unfold cmO at h1 h2
  omega
theorem sorted_is {d d' : Array SO} (hp : PermIn 0 d.size d d') (hs : SortedIn (ltOf cmO) 0 d.size d') (hn : (d.toList.map (·.1.tm)).Nodup) : d'.toList = sortL d.toList := by
  obtain ⟨h1, _, h2⟩ := hp
  have e1 : d'.extract 0 d.size = d' := by rw [← h1]; simp
  have e2 : d.extract 0 d.size = d := by simp
  rw [e1, e2] at h2
  refine sort_unique h2 ?_ hn
  rw [List.pairwise_iff_getElem]
  intro i j hi hj hij
  have hi' : i < d'.size := by simpa using hi
  have hj' : j < d'.size := by simpa using hj
  have := hs i j (Nat.zero_le _) hij (by omega)
  rw [lt_not, getElem!_pos d' i hi', getElem!_pos d' j hj'] at this
  simpa [cmO] using this
end Go.Proofs.Ytfnapmdedmbdbaa
end
section
set_option linter.unusedVariables false
set_option linter.unusedSimpArgs false
namespace Go.Proofs.Ytfnapmdedmbdbaa
open Go Go.Am
structure Pl where
  (ho aw hr hb ar ab wi : Int) (vo : Bool)
deriving DecidableEq
instance : Inhabited Pl := ⟨⟨0, 0, 0, 0, 0, 0, 0, false⟩⟩
abbrev plC (p : Pl) : List AV := [AV.i p.ho, AV.i p.aw, AV.i p.hr, AV.i p.hb, AV.i p.ar, AV.i p.ab, AV.i p.wi, .v (.bool p.vo)]
def flatP (l : List Pl) : List AV := (l.map plC).flatten
abbrev plsAV (l : List Pl) : AV := .sl l.length (flatP l)
abbrev gp (l : List Pl) (u : Nat) : Pl := l.getD u default
theorem flatP_len (l : List Pl) : (flatP l).length = l.length * 8 := by
  induction l with
  | nil => rfl
  | cons s l ih => unfold flatP at ih ⊢; rw [List.map_cons, List.flatten_cons, List.length_append, ih]; simp; omega
theorem flatP_get : ∀ (l : List Pl) (u k : Nat), u < l.length → k < 8 → (flatP l)[u * 8 + k]? = (plC (gp l u))[k]?
  | [], u, k, h, _ => by simp at h
  | s :: l, 0, k, _, hk => by
    unfold flatP
    rw [List.map_cons, List.flatten_cons, Nat.zero_mul, Nat.zero_add, List.getElem?_append_left (by simpa using hk)]
    rfl
  | s :: l, u + 1, k, h, hk => by
    have ih := flatP_get l u k (by simpa using h) hk
    unfold flatP at ih ⊢
    rw [List.map_cons, List.flatten_cons, List.getElem?_append_right (by simp; omega)]
    rw [show (u + 1) * 8 + k - (plC s).length = u * 8 + k by simp; omega, ih]
    rfl
theorem cut_of {F : List AV} {C : List AV} {z o : Nat} (hC : C.length = z) (h : ∀ k, k < z → F[o + k]? = C[k]?) : (F.drop o).take z = C := by
  apply List.ext_getElem?
  intro j
  rw [List.getElem?_take, List.getElem?_drop]
  by_cases hj : j < z
  · rw [if_pos hj, h j hj]
  · rw [if_neg hj, List.getElem?_eq_none (by omega)]
/-! ### The first nonzero of a row -/
def ferr (f : Nat → Int) : Nat → Int
  | 0 => 0
  | n + 1 => if ferr f n ≠ 0 then ferr f n else f n
theorem ferr_at {f : Nat → Int} {u : Nat} (h : ferr f u = 0) (hf : f u ≠ 0) : ∀ n, u < n → ferr f n = f u
  | 0, hn => by omega
  | n + 1, hn => by
    unfold ferr
    by_cases hu : u = n
    · subst hu; rw [if_neg (by simp [h])]
    · rw [ferr_at h hf n (by omega), if_pos hf]
theorem ferr_ok {f : Nat → Int} {u : Nat} (h : ferr f u = 0) (hf : f u = 0) : ferr f (u + 1) = 0 := by
  unfold ferr
  rw [if_neg (by simp [h]), hf]
theorem ferr_all {f : Nat → Int} : ∀ {n : Nat}, ferr f n = 0 → ∀ i, i < n → f i = 0
  | 0, _, i, hi => by omega
  | n + 1, h, i, hi => by
    unfold ferr at h
    by_cases h0 : ferr f n ≠ 0
    · rw [if_pos h0] at h; exact absurd h h0
    · rw [if_neg h0] at h
      by_cases hi2 : i = n
      · subst hi2; exact h
      · exact ferr_all (Decidable.not_not.mp h0) i (by omega)
/-- The error of a result of n teams. -/
def plE (n : Int) (p : Pl) : Int :=
  if p.ho < 0 ∨ n ≤ p.ho ∨ p.aw < 0 ∨ n ≤ p.aw ∨ p.ho = p.aw then 1
  else if p.hr < 0 ∨ 2000 < p.hr ∨ p.ar < 0 ∨ 2000 < p.ar ∨ p.hb < 0 ∨ 1000 < p.hb ∨ p.ab < 0 ∨ 1000 < p.ab then 2
  else if p.wi < 0 ∨ 2 < p.wi then 3
  else if p.vo = true ∧ (p.wi ≠ 0 ∨ p.hr ≠ 0 ∨ p.hb ≠ 0 ∨ p.ar ≠ 0 ∨ p.ab ≠ 0) then 11 else 0
def chS (n : Int) (l : List Pl) : Int := if n < 2 ∨ 20 < n then 2 else if 400 < l.length then 9 else ferr (fun i => plE n (gp l i)) l.length
theorem chS_a {n : Int} {l : List Pl} (h : n < 2 ∨ 20 < n) : chS n l = 2 := if_pos h
theorem chS_b {n : Int} {l : List Pl} (h : ¬ (n < 2 ∨ 20 < n)) (h1 : 400 < l.length) : chS n l = 9 := by rw [chS, if_neg h, if_pos h1]
theorem chS_c {n : Int} {l : List Pl} {u : Nat} {e : Int} (h : ¬ (n < 2 ∨ 20 < n)) (h1 : ¬ 400 < l.length) (hu : u < l.length) (hf : ferr (fun i => plE n (gp l i)) u = 0) (he : plE n (gp l u) = e) (h0 : e ≠ 0) : chS n l = e := by
  rw [chS, if_neg h, if_neg h1, ferr_at hf (by rw [he]; exact h0) l.length hu, he]
theorem chS_d {n : Int} {l : List Pl} (h : ¬ (n < 2 ∨ 20 < n)) (h1 : ¬ 400 < l.length) (hf : ferr (fun i => plE n (gp l i)) l.length = 0) : chS n l = 0 := by
  rw [chS, if_neg h, if_neg h1, hf]
theorem plE_1 {n : Int} {p : Pl} (h : p.ho < 0 ∨ n ≤ p.ho ∨ p.aw < 0 ∨ n ≤ p.aw ∨ p.ho = p.aw) : plE n p = 1 := if_pos h
theorem plE_2 {n : Int} {p : Pl} (h : ¬ (p.ho < 0 ∨ n ≤ p.ho ∨ p.aw < 0 ∨ n ≤ p.aw ∨ p.ho = p.aw)) (h1 : p.hr < 0 ∨ 2000 < p.hr ∨ p.ar < 0 ∨ 2000 < p.ar ∨ p.hb < 0 ∨ 1000 < p.hb ∨ p.ab < 0 ∨ 1000 < p.ab) : plE n p = 2 := by rw [plE, if_neg h, if_pos h1]
theorem plE_3 {n : Int} {p : Pl} (h : ¬ (p.ho < 0 ∨ n ≤ p.ho ∨ p.aw < 0 ∨ n ≤ p.aw ∨ p.ho = p.aw)) (h1 : ¬ (p.hr < 0 ∨ 2000 < p.hr ∨ p.ar < 0 ∨ 2000 < p.ar ∨ p.hb < 0 ∨ 1000 < p.hb ∨ p.ab < 0 ∨ 1000 < p.ab)) (h2 : p.wi < 0 ∨ 2 < p.wi) : plE n p = 3 := by rw [plE, if_neg h, if_neg h1, if_pos h2]
theorem plE_4 {n : Int} {p : Pl} (h : ¬ (p.ho < 0 ∨ n ≤ p.ho ∨ p.aw < 0 ∨ n ≤ p.aw ∨ p.ho = p.aw)) (h1 : ¬ (p.hr < 0 ∨ 2000 < p.hr ∨ p.ar < 0 ∨ 2000 < p.ar ∨ p.hb < 0 ∨ 1000 < p.hb ∨ p.ab < 0 ∨ 1000 < p.ab)) (h2 : ¬ (p.wi < 0 ∨ 2 < p.wi)) (h3 : p.vo = true ∧ (p.wi ≠ 0 ∨ p.hr ≠ 0 ∨ p.hb ≠ 0 ∨ p.ar ≠ 0 ∨ p.ab ≠ 0)) : plE n p = 11 := by rw [plE, if_neg h, if_neg h1, if_neg h2, if_pos h3]
theorem plE_0 {n : Int} {p : Pl} (h : ¬ (p.ho < 0 ∨ n ≤ p.ho ∨ p.aw < 0 ∨ n ≤ p.aw ∨ p.ho = p.aw)) (h1 : ¬ (p.hr < 0 ∨ 2000 < p.hr ∨ p.ar < 0 ∨ 2000 < p.ar ∨ p.hb < 0 ∨ 1000 < p.hb ∨ p.ab < 0 ∨ 1000 < p.ab)) (h2 : ¬ (p.wi < 0 ∨ 2 < p.wi)) (h3 : ¬ (p.vo = true ∧ (p.wi ≠ 0 ∨ p.hr ≠ 0 ∨ p.hb ≠ 0 ∨ p.ar ≠ 0 ∨ p.ab ≠ 0))) : plE n p = 0 := by rw [plE, if_neg h, if_neg h1, if_neg h2, if_neg h3]
theorem plE_z {n : Int} {p : Pl} (h : plE n p = 0) : (0 ≤ p.ho ∧ p.ho < n ∧ 0 ≤ p.aw ∧ p.aw < n ∧ p.ho ≠ p.aw) ∧ ((0 ≤ p.hr ∧ p.hr ≤ 2000) ∧ (0 ≤ p.ar ∧ p.ar ≤ 2000) ∧ (0 ≤ p.hb ∧ p.hb ≤ 1000) ∧ 0 ≤ p.ab ∧ p.ab ≤ 1000) ∧ 0 ≤ p.wi ∧ p.wi ≤ 2 := by
  unfold plE at h
  split at h
  · cases h
  split at h
  · cases h
  split at h
  · cases h
  omega
/-! ### Standings -/
/-- A result counted for one of its teams. -/
def cnS (s : St) (wi r b o a w : Int) : St :=
  { s with pl := s.pl + 1, rf := s.rf + r, bf := s.bf + b, ra := s.ra + o, ba := s.ba + a, sh := if wi = 0 then s.sh + 1 else s.sh, wn := if wi ≠ 0 ∧ wi = w then s.wn + 1 else s.wn, ls := if wi ≠ 0 ∧ wi ≠ w then s.ls + 1 else s.ls, pt := if wi = 0 then s.pt + 1 else if wi = w then s.pt + 2 else s.pt }
theorem cn_0 {s : St} {wi r b o a w : Int} (h : wi = 0) : cnS s wi r b o a w = ⟨s.tm, s.pl + 1, s.wn, s.sh + 1, s.ls, s.pt + 1, s.rf + r, s.bf + b, s.ra + o, s.ba + a⟩ := by simp [cnS, h]
theorem cn_w {s : St} {wi r b o a w : Int} (h : ¬ wi = 0) (h1 : wi = w) : cnS s wi r b o a w = ⟨s.tm, s.pl + 1, s.wn + 1, s.sh, s.ls, s.pt + 2, s.rf + r, s.bf + b, s.ra + o, s.ba + a⟩ := by subst h1; simp [cnS, h]
theorem cn_l {s : St} {wi r b o a w : Int} (h : ¬ wi = 0) (h1 : ¬ wi = w) : cnS s wi r b o a w = ⟨s.tm, s.pl + 1, s.wn, s.sh, s.ls + 1, s.pt, s.rf + r, s.bf + b, s.ra + o, s.ba + a⟩ := by simp [cnS, h, h1]
def upS (t : Int) (s : St) (p : Pl) : St := if p.aw = t then cnS s p.wi p.ar p.ab p.hr p.hb 2 else if p.ho = t then cnS s p.wi p.hr p.hb p.ar p.ab 1 else s
/-- The standing of a team after results. -/
def stdS (l : List Pl) (t : Int) : St := l.foldl (upS t) ⟨t, 0, 0, 0, 0, 0, 0, 0, 0, 0⟩
theorem stdS_snoc (l : List Pl) (u : Nat) (hu : u < l.length) (t : Int) : stdS (l.take (u + 1)) t = upS t (stdS (l.take u) t) (gp l u) := by
  have e : l.take (u + 1) = l.take u ++ [gp l u] := by
    rw [List.take_add_one, List.getElem?_eq_getElem hu]
    simp [gp, List.getD, List.getElem?_eq_getElem hu]
  rw [stdS, e, List.foldl_append]
  rfl
/-- What holds of a standing after u results. -/
def StI (u : Nat) (t : Int) (s : St) : Prop := s.tm = t ∧ s.pt = 2 * s.wn + s.sh ∧ s.pl = s.wn + s.sh + s.ls ∧ (0 ≤ s.wn ∧ 0 ≤ s.sh ∧ 0 ≤ s.ls ∧ s.pl ≤ u) ∧ (0 ≤ s.rf ∧ s.rf ≤ 2000 * u) ∧ (0 ≤ s.bf ∧ s.bf ≤ 1000 * u) ∧ (0 ≤ s.ra ∧ s.ra ≤ 2000 * u) ∧ 0 ≤ s.ba ∧ s.ba ≤ 1000 * u
theorem cnS_inv {u : Nat} {t : Int} {s : St} {wi r b o a w : Int} (h : StI u t s) (hr : 0 ≤ r ∧ r ≤ 2000) (hb : 0 ≤ b ∧ b ≤ 1000) (ho : 0 ≤ o ∧ o ≤ 2000) (ha : 0 ≤ a ∧ a ≤ 1000) (hw : w ≠ 0) : StI (u + 1) t (cnS s wi r b o a w) := by
  unfold StI at h ⊢
  obtain ⟨h1, h2, h3, h4, h5, h6, h7, h8⟩ := h
  unfold cnS
  simp only
  by_cases c : wi = 0
  · simp only [c, if_true, ne_eq, not_true_eq_false, false_and, if_false]
    omega
  · by_cases d : wi = w
    · simp only [c, d, hw, if_true, ne_eq, not_true_eq_false, not_false_eq_true, true_and, and_false, and_true, if_false]
      omega
    · simp only [c, d, ne_eq, not_false_eq_true, true_and, if_true, if_false, and_self, and_false]
      omega
theorem stdS_inv {n : Int} {l : List Pl} (hl : ∀ i, i < l.length → plE n (gp l i) = 0) (t : Int) : ∀ u, u ≤ l.length → StI u t (stdS (l.take u) t)
  | 0, _ => by rw [List.take_zero]; unfold StI stdS; simp
  | u + 1, hu => by
    have ih := stdS_inv hl t u (by omega)
    have hz := plE_z (hl u (by omega))
    rw [stdS_snoc l u (by omega)]
    unfold upS
    split
    · exact cnS_inv ih (by omega) (by omega) (by omega) (by omega) (by decide)
    · split
      · exact cnS_inv ih (by omega) (by omega) (by omega) (by omega) (by decide)
      · unfold StI at ih ⊢
        omega
theorem stI_ok {u : Nat} {t : Int} {s : St} (h : StI u t s) (hu : u ≤ 400) : okS s := by
  unfold StI at h
  unfold okS inS
  omega
/-- The standings of n teams after results, in the order of their numbers. -/
def stds (n : Nat) (l : List Pl) : List St := (List.range n).map fun t : Nat => stdS l (t : Int)
theorem stds_len (n : Nat) (l : List Pl) : (stds n l).length = n := by simp [stds]
end Go.Proofs.Ytfnapmdedmbdbaa
end
section
namespace Go.Proofs
open Go.Shelf
def Try.lays264_ren : Go.Shelf.Ren := ⟨fun | 264 => 80 | n => n, fun | 53 => 111 | 46 => 91 | n => n, fun | n => n⟩
theorem Try.lays264 : Go.Proofs.Lays.n264 Try.prog Try.lays264_ren := {
  mixed := by kernel_rfl
  f264 := Try.func80.trans (congrArg some (by kernel_rfl))
  t46 := Try.underlying91
  a46 := Try.isAgg91
  z46 := Try.sizeOf91
  v46 := Try.zeroValue91
  t53 := Try.underlying111
  a53 := Try.isAgg111
  z53 := Try.sizeOf111
  v53 := Try.zeroValue111 }
open Go.RowKit Go.Lib in
theorem Try.bits_Mul64 (x y : Nat) (hx : x < 18446744073709551616) (hy : y < 18446744073709551616) (w : World) :
    Calls Try.prog 80 #[.int .u64 x, .int .u64 y] w fun e w' => e = .returned (.tuple #[.int .u64 ((x * y / 18446744073709551616 : Nat) : Int), .int .u64 ((x * y % 18446744073709551616 : Nat) : Int)]) ∧ w' = w := Any.bits_Mul64 Try.lays264 x y hx hy w
def Try.sortSt_ren : Go.Shelf.Ren := ⟨fun | 6 => 26 | 15 => 44 | 14 => 43 | 28 => 64 | 29 => 65 | 20 => 56 | 21 => 57 | 22 => 58 | 23 => 59 | 24 => 60 | 25 => 61 | 26 => 62 | 27 => 63 | 46 => 74 | 47 => 75 | 48 => 76 | 49 => 77 | 50 => 78 | 57 => 85 | n => n, fun | 22 => 42 | 24 => 47 | 25 => 71 | 3 => 3 | 39 => 91 | 0 => 0 | 53 => 109 | 55 => 111 | 4 => 4 | 46 => 102 | 45 => 101 | 50 => 106 | 5 => 5 | 9 => 9 | 66 => 122 | 70 => 126 | 76 => 137 | 77 => 138 | n => n, fun | n => n⟩
theorem Try.sortSt : Go.Proofs.SlLaysF0.n6 Try.prog Try.sortSt_ren := {
  mixed := by kernel_rfl
  f6 := ⟨Try.f26.name, by decide, Try.func26.trans (congrArg some (by kernel_rfl))⟩
  f14 := ⟨Try.f43.name, by decide, Try.func43.trans (congrArg some (by kernel_rfl))⟩
  f15 := Try.func44.trans (congrArg some (by kernel_rfl))
  f20 := ⟨Try.f56.name, by decide, Try.func56.trans (congrArg some (by kernel_rfl))⟩
  f21 := ⟨Try.f57.name, by decide, Try.func57.trans (congrArg some (by kernel_rfl))⟩
  f22 := ⟨Try.f58.name, by decide, Try.func58.trans (congrArg some (by kernel_rfl))⟩
  f23 := ⟨Try.f59.name, by decide, Try.func59.trans (congrArg some (by kernel_rfl))⟩
  f24 := ⟨Try.f60.name, by decide, Try.func60.trans (congrArg some (by kernel_rfl))⟩
  f25 := ⟨Try.f61.name, by decide, Try.func61.trans (congrArg some (by kernel_rfl))⟩
  f26 := ⟨Try.f62.name, by decide, Try.func62.trans (congrArg some (by kernel_rfl))⟩
  f27 := ⟨Try.f63.name, by decide, Try.func63.trans (congrArg some (by kernel_rfl))⟩
  f28 := Try.func64.trans (congrArg some (by kernel_rfl))
  f29 := Try.func65.trans (congrArg some (by kernel_rfl))
  f46 := ⟨Try.f74.name, by decide, Try.func74.trans (congrArg some (by kernel_rfl))⟩
  f47 := Try.func75.trans (congrArg some (by kernel_rfl))
  f48 := Try.func76.trans (congrArg some (by kernel_rfl))
  f49 := ⟨Try.f77.name, by decide, Try.func77.trans (congrArg some (by kernel_rfl))⟩
  f50 := ⟨Try.f78.name, by decide, Try.func78.trans (congrArg some (by kernel_rfl))⟩
  f57 := ⟨Try.f85.name, by decide, Try.func85.trans (congrArg some (by kernel_rfl))⟩
  t0 := Try.underlying0
  a0 := Try.isAgg0
  z0 := Try.sizeOf0
  v0 := Try.zeroValue0
  t3 := Try.underlying3
  a3 := Try.isAgg3
  z3 := Try.sizeOf3
  v3 := Try.zeroValue3
  t4 := Try.underlying4
  a4 := Try.isAgg4
  z4 := Try.sizeOf4
  v4 := Try.zeroValue4
  t5 := Try.underlying5
  a5 := Try.isAgg5
  z5 := Try.sizeOf5
  v5 := Try.zeroValue5
  t9 := Try.underlying9
  a9 := Try.isAgg9
  z9 := Try.sizeOf9
  v9 := Try.zeroValue9
  t22 := Try.underlying42
  a22 := Try.isAgg42
  z22 := Try.sizeOf42
  v22 := Try.zeroValue42
  t25 := Try.underlying71
  a25 := Try.isAgg71
  z25 := Try.sizeOf71
  v25 := Try.zeroValue71
  t39 := Try.underlying91
  a39 := Try.isAgg91
  z39 := Try.sizeOf91
  v39 := Try.zeroValue91
  t45 := Try.underlying101
  a45 := Try.isAgg101
  z45 := Try.sizeOf101
  v45 := Try.zeroValue101
  t46 := Try.underlying102
  a46 := Try.isAgg102
  z46 := Try.sizeOf102
  v46 := Try.zeroValue102
  t50 := Try.underlying106
  a50 := Try.isAgg106
  z50 := Try.sizeOf106
  v50 := Try.zeroValue106
  t53 := Try.underlying109
  a53 := Try.isAgg109
  z53 := Try.sizeOf109
  v53 := Try.zeroValue109
  t55 := Try.underlying111
  a55 := Try.isAgg111
  z55 := Try.sizeOf111
  v55 := Try.zeroValue111
  t66 := Try.underlying122
  a66 := Try.isAgg122
  z66 := Try.sizeOf122
  v66 := Try.zeroValue122
  t70 := Try.underlying126
  a70 := Try.isAgg126
  z70 := Try.sizeOf126
  v70 := Try.zeroValue126
  t76 := Try.underlying137
  a76 := Try.isAgg137
  z76 := Try.sizeOf137
  v76 := Try.zeroValue137
  t77 := Try.underlying138
  a77 := Try.isAgg138
  z77 := Try.sizeOf138
  v77 := Try.zeroValue138 }
end Go.Proofs
end
section
set_option linter.unusedVariables false
namespace Go.Proofs.Ytfnapmdedmbdbaa
open Go Go.Am Go.RowKit Go.Sort
instance dnT : Dn := ⟨True⟩
def add64V : List AV → Heap → Option AV
  | [.v (.int .u64 x), .v (.int .u64 y), .v (.int .u64 c)], _ => if 0 ≤ x ∧ 0 ≤ y ∧ 0 ≤ c ∧ c ≤ 1 then some (.tup [.v (.int .u64 ((x + y + c) % 18446744073709551616)), .v (.int .u64 ((x + y + c) / 18446744073709551616))]) else none
  | _, _ => none
def mul64V : List AV → Heap → Option AV
  | [.v (.int .u64 x), .v (.int .u64 y)], _ => if (0 ≤ x ∧ x ≤ 18446744073709551615) ∧ 0 ≤ y ∧ y ≤ 18446744073709551615 then some (.tup [.v (.int .u64 (x * y / 18446744073709551616)), .v (.int .u64 (x * y % 18446744073709551616))]) else none
  | _, _ => none
theorem two_args {φ : Phi} {I : Nat → Prop} {w : World} {a b : Value} {cs : Array Value} (h : DL φ I w [.v a, .v b] cs) : cs = #[a, b] := by
  obtain ⟨l⟩ := cs
  have hl : l.length = 2 := by simpa using h.1
  match l, hl, h with
  | [x, y], _, h =>
    have h0 := den_v (h.2 0 _ x rfl rfl)
    have h1 := den_v (h.2 1 _ y rfl rfl)
    rw [h0, h1]
theorem three_args {φ : Phi} {I : Nat → Prop} {w : World} {a b c : Value} {cs : Array Value} (h : DL φ I w [.v a, .v b, .v c] cs) : cs = #[a, b, c] := by
  obtain ⟨l⟩ := cs
  have hl : l.length = 3 := by simpa using h.1
  match l, hl, h with
  | [x, y, z], _, h =>
    have h0 := den_v (h.2 0 _ x rfl rfl)
    have h1 := den_v (h.2 1 _ y rfl rfl)
    have h2 := den_v (h.2 2 _ z rfl rfl)
    rw [h0, h1, h2]
theorem named80 : Named Try.prog 80 := ⟨Try.f80, Try.func80, by kernel_rfl, by kernel_rfl⟩
/-- The model's own entries for the sums and differences with a carry. -/
def addE : Array Value → Sem Value := fun args => do
  let (x, y, c) ← Extern.MathBitsCarry.three "Add64" args
  pure (Extern.MathBitsCarry.pair ((x + y + c) % Extern.MathBitsCarry.m64) ((x + y + c) / Extern.MathBitsCarry.m64))
theorem run_addE {P : Program} (x y c : Nat) (hc : c ≤ 1) (w : World) :
    (addE #[.int .u64 x, .int .u64 y, .int .u64 c]).run P w = .ok (.tuple #[.int .u64 (((x + y + c) % 18446744073709551616 : Nat) : Int), .int .u64 (((x + y + c) / 18446744073709551616 : Nat) : Int)]) w := by
  have : c = 0 ∨ c = 1 := by omega
  rcases this with rfl | rfl <;> rfl
theorem run61 (x y c : Nat) (hc : c ≤ 1) (w : World) :
    (callFunc 86 #[.int .u64 x, .int .u64 y, .int .u64 c]).run Try.prog w = .ok (.value (.tuple #[.int .u64 (((x + y + c) % 18446744073709551616 : Nat) : Int), .int .u64 (((x + y + c) / 18446744073709551616 : Nat) : Int)])) w := by
  rw [run_callFunc_extern Try.func86 (by kernel_rfl) (by kernel_rfl) (by kernel_rfl) (e := addE) (by kernel_rfl), run_addE x y c hc]
  rfl
theorem den_two {φ : Phi} {I : Nat → Prop} {w : World} (a b : Value) : Den φ I w (.tup [.v a, .v b]) (.tuple #[a, b]) :=
  .tup _ _ rfl (fun j x y hx hy => (DL.vs (φ := φ) (I := I) (w := w) [_, _]).2 j x y hx hy)
theorem nat_of {x : Int} (h : 0 ≤ x) : ∃ n : Nat, x = (n : Int) := ⟨x.toNat, by omega⟩
def primC : FuncId → Option (List AV → Heap → Option AV)
  | 86 => some add64V
  | 80 => some mul64V
  | _ => none
theorem primC_ok : ∀ f p, primC f = some p → ∀ args H r, p args H = some r → ∀ (lim : Nat) (φ : Phi) (I : Nat → Prop) (w : World) (cs : Array Value), Tb w → Rel lim φ I w H → DL φ I w args cs → CallW Try.prog f cs w (PurePost φ I w lim H r) := by
  intro f p h args H r hr lim φ I w cs hT hR hD
  unfold primC at h
  split at h
  · cases h
    unfold add64V at hr
    split at hr
    · rename_i x y c _
      cases three_args hD
      split at hr
      · rename_i hk
        obtain ⟨hx, hy, hc, hc1⟩ := hk
        obtain ⟨x, rfl⟩ := nat_of hx
        obtain ⟨y, rfl⟩ := nat_of hy
        obtain ⟨c, rfl⟩ := nat_of hc
        cases hr
        exact .inr ⟨_, fun w' => run61 x y c (by omega) w', _, I, rfl, den_two _ _, fun _ h => h, Bel.refl _ _, hR⟩
      · cases hr
    · cases hr
  · cases h
    unfold mul64V at hr
    split at hr
    · rename_i x y _
      cases two_args hD
      split at hr
      · rename_i hk
        obtain ⟨⟨hx, hx1⟩, hy, hy1⟩ := hk
        obtain ⟨x, rfl⟩ := nat_of hx
        obtain ⟨y, rfl⟩ := nat_of hy
        cases hr
        refine .inl ⟨named80, (Try.bits_Mul64 x y (by omega) (by omega) w).mono ?_⟩
        rintro e w' ⟨rfl, rfl⟩
        exact ⟨_, I, rfl, den_two _ _, fun _ h => h, Bel.refl _ _, hR⟩
      · cases hr
    · cases hr
  · cases h
end Go.Proofs.Ytfnapmdedmbdbaa
end
section
set_option linter.unusedVariables false
namespace Go.Proofs.Ytfnapmdedmbdbaa.C
open Go Go.Am
noncomputable def fns : FuncId → Option FnA
  | 27 => some fa27
  | 45 => some fa45
  | 46 => some fa46
  | 66 => some fa66
  | 42 => some fa42
  | 67 => some fa67
  | 68 => some fa68
  | 79 => some fa79
  | 81 => some fa81
  | _ => none
noncomputable def sig : Sig := { P := Try.prog, fns := fns, prim := primC, own := fun _ => false, fz := fun _ => false }
theorem fnOK27 : FnOK Try.prog sig.pure 27 fa27 := ⟨Try.func27, by kernel_rfl, fun c hc => by cases hc; kernel_rfl⟩
theorem fnOK45 : FnOK Try.prog sig.pure 45 fa45 := ⟨Try.func45, by kernel_rfl, fun c hc => by cases hc; kernel_rfl⟩
theorem fnOK46 : FnOK Try.prog sig.pure 46 fa46 := ⟨Try.func46, by kernel_rfl, fun c hc => by cases hc; kernel_rfl⟩
theorem fnOK66 : FnOK Try.prog sig.pure 66 fa66 := ⟨Try.func66, by kernel_rfl, fun c hc => by cases hc; kernel_rfl⟩
theorem fnOK42 : FnOK Try.prog sig.pure 42 fa42 := ⟨Try.func42, by kernel_rfl, fun c hc => by cases hc; kernel_rfl⟩
theorem fnOK67 : FnOK Try.prog sig.pure 67 fa67 := ⟨Try.func67, by kernel_rfl, fun c hc => by cases hc; kernel_rfl⟩
theorem fnOK68 : FnOK Try.prog sig.pure 68 fa68 := ⟨Try.func68, by kernel_rfl, fun c hc => by cases hc; kernel_rfl⟩
theorem fnOK79 : FnOK Try.prog sig.pure 79 fa79 := ⟨Try.func79, by kernel_rfl, fun c hc => by cases hc; kernel_rfl⟩
theorem fnOK81 : FnOK Try.prog sig.pure 81 fa81 := ⟨Try.func81, by kernel_rfl, fun c hc => by cases hc; kernel_rfl⟩
theorem fns_ok : ∀ f fa, fns f = some fa → FnOK Try.prog sig.pure f fa := by
  intro f fa h
  unfold fns at h
  split at h <;> first | (cases h; done) | skip
  · cases h; exact fnOK27
  · cases h; exact fnOK45
  · cases h; exact fnOK46
  · cases h; exact fnOK66
  · cases h; exact fnOK42
  · cases h; exact fnOK67
  · cases h; exact fnOK68
  · cases h; exact fnOK79
  · cases h; exact fnOK81
theorem sig_ok : SigOK sig := ⟨by kernel_rfl, fns_ok, fun f h => by simp [sig] at h, fun f p h => ⟨rfl, primC_ok f p h⟩, fun f p h => by cases h⟩
theorem sigP : sig.P = Try.prog := rfl
attribute [go_sem] sigP
end Go.Proofs.Ytfnapmdedmbdbaa.C
end
