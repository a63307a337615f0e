/-
  What loads, indexing, fields and lengths yield, type by type. Written by program (typack.py).
-/
import Derived.Test.YtfnapmdedmbdbaaDoorSig
import Derived.Test.YtfnapmdedmbdbaaDoorAmT
namespace Go.Proofs.YtfnapmdedmbdbaaDoor
open Go Go.Am

theorem sigP : sig.P = Tryd.prog := rfl
theorem ldp1 (H : Heap) (b o : Nat) : loadV Tryd.prog H 1 (.ptr b o) = (hget H b).bind fun k => k[o]? := by rw [load_ptr _ H 1 _ ty1 b o]; rfl
theorem lde1 (H : Heap) (l : List AV) (o : Nat) : loadV Tryd.prog H 1 (.ele l o) = l[o]? := by rw [load_ele _ H 1 _ ty1 l o]; rfl
theorem zr1 : (tyOf Tryd.prog 1).bind (fun ty => ty.zero) = some [.nilFunc] := by rw [ty1]; rfl
theorem ldp2 (H : Heap) (b o : Nat) : loadV Tryd.prog H 2 (.ptr b o) = (hget H b).bind fun k => k[o]? := by rw [load_ptr _ H 2 _ ty2 b o]; rfl
theorem lde2 (H : Heap) (l : List AV) (o : Nat) : loadV Tryd.prog H 2 (.ele l o) = l[o]? := by rw [load_ele _ H 2 _ ty2 l o]; rfl
theorem zr2 : (tyOf Tryd.prog 2).bind (fun ty => ty.zero) = some [.int .i64 0] := by rw [ty2]; rfl
theorem ldp3 (H : Heap) (b o : Nat) : loadV Tryd.prog H 3 (.ptr b o) = (hget H b).bind fun k => k[o]? := by rw [load_ptr _ H 3 _ ty3 b o]; rfl
theorem lde3 (H : Heap) (l : List AV) (o : Nat) : loadV Tryd.prog H 3 (.ele l o) = l[o]? := by rw [load_ele _ H 3 _ ty3 l o]; rfl
theorem zr3 : (tyOf Tryd.prog 3).bind (fun ty => ty.zero) = some [.int .i64 0] := by rw [ty3]; rfl
theorem ldp4 (H : Heap) (b o : Nat) : loadV Tryd.prog H 4 (.ptr b o) = (hget H b).bind fun k => k[o]? := by rw [load_ptr _ H 4 _ ty4 b o]; rfl
theorem lde4 (H : Heap) (l : List AV) (o : Nat) : loadV Tryd.prog H 4 (.ele l o) = l[o]? := by rw [load_ele _ H 4 _ ty4 l o]; rfl
theorem zr4 : (tyOf Tryd.prog 4).bind (fun ty => ty.zero) = some [.bool false] := by rw [ty4]; rfl
theorem beq4 (a b : Bool) : binV Tryd.prog .eql 4 (.v (.bool a)) (.v (.bool b)) = some (.v (.bool (a == b))) := by simp only [binV, tk4]
theorem bne4 (a b : Bool) : binV Tryd.prog .neq 4 (.v (.bool a)) (.v (.bool b)) = some (.v (.bool (!(a == b)))) := by simp only [binV, tk4]
theorem ldp5 (H : Heap) (b o : Nat) : loadV Tryd.prog H 5 (.ptr b o) = (hget H b).bind fun k => k[o]? := by rw [load_ptr _ H 5 _ ty5 b o]; rfl
theorem lde5 (H : Heap) (l : List AV) (o : Nat) : loadV Tryd.prog H 5 (.ele l o) = l[o]? := by rw [load_ele _ H 5 _ ty5 l o]; rfl
theorem zr5 : (tyOf Tryd.prog 5).bind (fun ty => ty.zero) = some [.int .u8 0] := by rw [ty5]; rfl
theorem ldp6 (H : Heap) (b o : Nat) : loadV Tryd.prog H 6 (.ptr b o) = (hget H b).bind fun k => k[o]? := by rw [load_ptr _ H 6 _ ty6 b o]; rfl
theorem lde6 (H : Heap) (l : List AV) (o : Nat) : loadV Tryd.prog H 6 (.ele l o) = l[o]? := by rw [load_ele _ H 6 _ ty6 l o]; rfl
theorem zr6 : (tyOf Tryd.prog 6).bind (fun ty => ty.zero) = some [.int .u8 0] := by rw [ty6]; rfl
theorem ldp7 (H : Heap) (b o : Nat) : loadV Tryd.prog H 7 (.ptr b o) = (hget H b).bind fun k => partL { size := 4, bytes := 24, agg := true, k := .struct [(0, 2), (1, 3), (2, 4), (3, 6)], zero := some [.int .i64 0, .int .i64 0, .bool false, .int .u8 0] } k o := load_ptr _ H 7 _ ty7 b o
theorem lde7 (H : Heap) (l : List AV) (o : Nat) : loadV Tryd.prog H 7 (.ele l o) = partL { size := 4, bytes := 24, agg := true, k := .struct [(0, 2), (1, 3), (2, 4), (3, 6)], zero := some [.int .i64 0, .int .i64 0, .bool false, .int .u8 0] } l o := load_ele _ H 7 _ ty7 l o
theorem pl7 (l : List AV) (o : Nat) (h : o + 4 ≤ l.length) : partL { size := 4, bytes := 24, agg := true, k := .struct [(0, 2), (1, 3), (2, 4), (3, 6)], zero := some [.int .i64 0, .int .i64 0, .bool false, .int .u8 0] } l o = some (.agg ((l.drop o).take 4)) := by rw [partL_agg _ _ _ rfl, if_pos h]
theorem zr7 : (tyOf Tryd.prog 7).bind (fun ty => ty.zero) = some [.int .i64 0, .int .i64 0, .bool false, .int .u8 0] := by rw [ty7]; rfl
theorem fap7_0 (b o : Nat) : fieldAddrV Tryd.prog 7 (.ptr b o) 0 = some (.ptr b (o)) := fa_ptr _ 7 _ tk7 b o 0 0 2 _ rfl ty2 (by decide)
theorem fae7_0 (l : List AV) (o : Nat) : fieldAddrV Tryd.prog 7 (.ele l o) 0 = some (.ele l (o)) := fa_ele _ 7 _ tk7 l o 0 0 2 _ rfl ty2 (by decide)
theorem fd7_0 (l : List AV) : fieldV Tryd.prog 7 (.agg l) 0 = l[0]? := by rw [fd_agg _ 7 _ tk7 l 0 0 2 _ rfl ty2]; rfl
theorem fap7_1 (b o : Nat) : fieldAddrV Tryd.prog 7 (.ptr b o) 1 = some (.ptr b (o + 1)) := fa_ptr _ 7 _ tk7 b o 1 1 3 _ rfl ty3 (by decide)
theorem fae7_1 (l : List AV) (o : Nat) : fieldAddrV Tryd.prog 7 (.ele l o) 1 = some (.ele l (o + 1)) := fa_ele _ 7 _ tk7 l o 1 1 3 _ rfl ty3 (by decide)
theorem fd7_1 (l : List AV) : fieldV Tryd.prog 7 (.agg l) 1 = l[1]? := by rw [fd_agg _ 7 _ tk7 l 1 1 3 _ rfl ty3]; rfl
theorem fap7_2 (b o : Nat) : fieldAddrV Tryd.prog 7 (.ptr b o) 2 = some (.ptr b (o + 2)) := fa_ptr _ 7 _ tk7 b o 2 2 4 _ rfl ty4 (by decide)
theorem fae7_2 (l : List AV) (o : Nat) : fieldAddrV Tryd.prog 7 (.ele l o) 2 = some (.ele l (o + 2)) := fa_ele _ 7 _ tk7 l o 2 2 4 _ rfl ty4 (by decide)
theorem fd7_2 (l : List AV) : fieldV Tryd.prog 7 (.agg l) 2 = l[2]? := by rw [fd_agg _ 7 _ tk7 l 2 2 4 _ rfl ty4]; rfl
theorem fap7_3 (b o : Nat) : fieldAddrV Tryd.prog 7 (.ptr b o) 3 = some (.ptr b (o + 3)) := fa_ptr _ 7 _ tk7 b o 3 3 6 _ rfl ty6 (by decide)
theorem fae7_3 (l : List AV) (o : Nat) : fieldAddrV Tryd.prog 7 (.ele l o) 3 = some (.ele l (o + 3)) := fa_ele _ 7 _ tk7 l o 3 3 6 _ rfl ty6 (by decide)
theorem fd7_3 (l : List AV) : fieldV Tryd.prog 7 (.agg l) 3 = l[3]? := by rw [fd_agg _ 7 _ tk7 l 3 3 6 _ rfl ty6]; rfl
theorem ldp8 (H : Heap) (b o : Nat) : loadV Tryd.prog H 8 (.ptr b o) = (hget H b).bind fun k => partL { size := 4, bytes := 24, agg := true, k := .struct [(0, 2), (1, 3), (2, 4), (3, 6)], zero := some [.int .i64 0, .int .i64 0, .bool false, .int .u8 0] } k o := load_ptr _ H 8 _ ty8 b o
theorem lde8 (H : Heap) (l : List AV) (o : Nat) : loadV Tryd.prog H 8 (.ele l o) = partL { size := 4, bytes := 24, agg := true, k := .struct [(0, 2), (1, 3), (2, 4), (3, 6)], zero := some [.int .i64 0, .int .i64 0, .bool false, .int .u8 0] } l o := load_ele _ H 8 _ ty8 l o
theorem pl8 (l : List AV) (o : Nat) (h : o + 4 ≤ l.length) : partL { size := 4, bytes := 24, agg := true, k := .struct [(0, 2), (1, 3), (2, 4), (3, 6)], zero := some [.int .i64 0, .int .i64 0, .bool false, .int .u8 0] } l o = some (.agg ((l.drop o).take 4)) := by rw [partL_agg _ _ _ rfl, if_pos h]
theorem zr8 : (tyOf Tryd.prog 8).bind (fun ty => ty.zero) = some [.int .i64 0, .int .i64 0, .bool false, .int .u8 0] := by rw [ty8]; rfl
theorem fap8_0 (b o : Nat) : fieldAddrV Tryd.prog 8 (.ptr b o) 0 = some (.ptr b (o)) := fa_ptr _ 8 _ tk8 b o 0 0 2 _ rfl ty2 (by decide)
theorem fae8_0 (l : List AV) (o : Nat) : fieldAddrV Tryd.prog 8 (.ele l o) 0 = some (.ele l (o)) := fa_ele _ 8 _ tk8 l o 0 0 2 _ rfl ty2 (by decide)
theorem fd8_0 (l : List AV) : fieldV Tryd.prog 8 (.agg l) 0 = l[0]? := by rw [fd_agg _ 8 _ tk8 l 0 0 2 _ rfl ty2]; rfl
theorem fap8_1 (b o : Nat) : fieldAddrV Tryd.prog 8 (.ptr b o) 1 = some (.ptr b (o + 1)) := fa_ptr _ 8 _ tk8 b o 1 1 3 _ rfl ty3 (by decide)
theorem fae8_1 (l : List AV) (o : Nat) : fieldAddrV Tryd.prog 8 (.ele l o) 1 = some (.ele l (o + 1)) := fa_ele _ 8 _ tk8 l o 1 1 3 _ rfl ty3 (by decide)
theorem fd8_1 (l : List AV) : fieldV Tryd.prog 8 (.agg l) 1 = l[1]? := by rw [fd_agg _ 8 _ tk8 l 1 1 3 _ rfl ty3]; rfl
theorem fap8_2 (b o : Nat) : fieldAddrV Tryd.prog 8 (.ptr b o) 2 = some (.ptr b (o + 2)) := fa_ptr _ 8 _ tk8 b o 2 2 4 _ rfl ty4 (by decide)
theorem fae8_2 (l : List AV) (o : Nat) : fieldAddrV Tryd.prog 8 (.ele l o) 2 = some (.ele l (o + 2)) := fa_ele _ 8 _ tk8 l o 2 2 4 _ rfl ty4 (by decide)
theorem fd8_2 (l : List AV) : fieldV Tryd.prog 8 (.agg l) 2 = l[2]? := by rw [fd_agg _ 8 _ tk8 l 2 2 4 _ rfl ty4]; rfl
theorem fap8_3 (b o : Nat) : fieldAddrV Tryd.prog 8 (.ptr b o) 3 = some (.ptr b (o + 3)) := fa_ptr _ 8 _ tk8 b o 3 3 6 _ rfl ty6 (by decide)
theorem fae8_3 (l : List AV) (o : Nat) : fieldAddrV Tryd.prog 8 (.ele l o) 3 = some (.ele l (o + 3)) := fa_ele _ 8 _ tk8 l o 3 3 6 _ rfl ty6 (by decide)
theorem fd8_3 (l : List AV) : fieldV Tryd.prog 8 (.agg l) 3 = l[3]? := by rw [fd_agg _ 8 _ tk8 l 3 3 6 _ rfl ty6]; rfl
theorem ldp9 (H : Heap) (b o : Nat) : loadV Tryd.prog H 9 (.ptr b o) = (hget H b).bind fun k => k[o]? := by rw [load_ptr _ H 9 _ ty9 b o]; rfl
theorem lde9 (H : Heap) (l : List AV) (o : Nat) : loadV Tryd.prog H 9 (.ele l o) = l[o]? := by rw [load_ele _ H 9 _ ty9 l o]; rfl
theorem zr9 : (tyOf Tryd.prog 9).bind (fun ty => ty.zero) = some [.string ⟨#[]⟩] := by rw [ty9]; rfl
theorem lnt9 (s : ByteArray) : lenV (tyOf Tryd.prog 9) (.v (.string s)) = some (.v (.int .i64 s.size)) := by rw [ty9]; exact len_str _ _ rfl
theorem ldp23 (H : Heap) (b o : Nat) : loadV Tryd.prog H 23 (.ptr b o) = (hget H b).bind fun k => partL { size := 10, bytes := 80, agg := true, k := .struct [(0, 3), (1, 3), (2, 3), (3, 3), (4, 3), (5, 3), (6, 3), (7, 3), (8, 3), (9, 3)], zero := some [.int .i64 0, .int .i64 0, .int .i64 0, .int .i64 0, .int .i64 0, .int .i64 0, .int .i64 0, .int .i64 0, .int .i64 0, .int .i64 0] } k o := load_ptr _ H 23 _ ty23 b o
theorem lde23 (H : Heap) (l : List AV) (o : Nat) : loadV Tryd.prog H 23 (.ele l o) = partL { size := 10, bytes := 80, agg := true, k := .struct [(0, 3), (1, 3), (2, 3), (3, 3), (4, 3), (5, 3), (6, 3), (7, 3), (8, 3), (9, 3)], zero := some [.int .i64 0, .int .i64 0, .int .i64 0, .int .i64 0, .int .i64 0, .int .i64 0, .int .i64 0, .int .i64 0, .int .i64 0, .int .i64 0] } l o := load_ele _ H 23 _ ty23 l o
theorem pl23 (l : List AV) (o : Nat) (h : o + 10 ≤ l.length) : partL { size := 10, bytes := 80, agg := true, k := .struct [(0, 3), (1, 3), (2, 3), (3, 3), (4, 3), (5, 3), (6, 3), (7, 3), (8, 3), (9, 3)], zero := some [.int .i64 0, .int .i64 0, .int .i64 0, .int .i64 0, .int .i64 0, .int .i64 0, .int .i64 0, .int .i64 0, .int .i64 0, .int .i64 0] } l o = some (.agg ((l.drop o).take 10)) := by rw [partL_agg _ _ _ rfl, if_pos h]
theorem zr23 : (tyOf Tryd.prog 23).bind (fun ty => ty.zero) = some [.int .i64 0, .int .i64 0, .int .i64 0, .int .i64 0, .int .i64 0, .int .i64 0, .int .i64 0, .int .i64 0, .int .i64 0, .int .i64 0] := by rw [ty23]; rfl
theorem fap23_0 (b o : Nat) : fieldAddrV Tryd.prog 23 (.ptr b o) 0 = some (.ptr b (o)) := fa_ptr _ 23 _ tk23 b o 0 0 3 _ rfl ty3 (by decide)
theorem fae23_0 (l : List AV) (o : Nat) : fieldAddrV Tryd.prog 23 (.ele l o) 0 = some (.ele l (o)) := fa_ele _ 23 _ tk23 l o 0 0 3 _ rfl ty3 (by decide)
theorem fd23_0 (l : List AV) : fieldV Tryd.prog 23 (.agg l) 0 = l[0]? := by rw [fd_agg _ 23 _ tk23 l 0 0 3 _ rfl ty3]; rfl
theorem fap23_1 (b o : Nat) : fieldAddrV Tryd.prog 23 (.ptr b o) 1 = some (.ptr b (o + 1)) := fa_ptr _ 23 _ tk23 b o 1 1 3 _ rfl ty3 (by decide)
theorem fae23_1 (l : List AV) (o : Nat) : fieldAddrV Tryd.prog 23 (.ele l o) 1 = some (.ele l (o + 1)) := fa_ele _ 23 _ tk23 l o 1 1 3 _ rfl ty3 (by decide)
theorem fd23_1 (l : List AV) : fieldV Tryd.prog 23 (.agg l) 1 = l[1]? := by rw [fd_agg _ 23 _ tk23 l 1 1 3 _ rfl ty3]; rfl
theorem fap23_2 (b o : Nat) : fieldAddrV Tryd.prog 23 (.ptr b o) 2 = some (.ptr b (o + 2)) := fa_ptr _ 23 _ tk23 b o 2 2 3 _ rfl ty3 (by decide)
theorem fae23_2 (l : List AV) (o : Nat) : fieldAddrV Tryd.prog 23 (.ele l o) 2 = some (.ele l (o + 2)) := fa_ele _ 23 _ tk23 l o 2 2 3 _ rfl ty3 (by decide)
theorem fd23_2 (l : List AV) : fieldV Tryd.prog 23 (.agg l) 2 = l[2]? := by rw [fd_agg _ 23 _ tk23 l 2 2 3 _ rfl ty3]; rfl
theorem fap23_3 (b o : Nat) : fieldAddrV Tryd.prog 23 (.ptr b o) 3 = some (.ptr b (o + 3)) := fa_ptr _ 23 _ tk23 b o 3 3 3 _ rfl ty3 (by decide)
theorem fae23_3 (l : List AV) (o : Nat) : fieldAddrV Tryd.prog 23 (.ele l o) 3 = some (.ele l (o + 3)) := fa_ele _ 23 _ tk23 l o 3 3 3 _ rfl ty3 (by decide)
theorem fd23_3 (l : List AV) : fieldV Tryd.prog 23 (.agg l) 3 = l[3]? := by rw [fd_agg _ 23 _ tk23 l 3 3 3 _ rfl ty3]; rfl
theorem fap23_4 (b o : Nat) : fieldAddrV Tryd.prog 23 (.ptr b o) 4 = some (.ptr b (o + 4)) := fa_ptr _ 23 _ tk23 b o 4 4 3 _ rfl ty3 (by decide)
theorem fae23_4 (l : List AV) (o : Nat) : fieldAddrV Tryd.prog 23 (.ele l o) 4 = some (.ele l (o + 4)) := fa_ele _ 23 _ tk23 l o 4 4 3 _ rfl ty3 (by decide)
theorem fd23_4 (l : List AV) : fieldV Tryd.prog 23 (.agg l) 4 = l[4]? := by rw [fd_agg _ 23 _ tk23 l 4 4 3 _ rfl ty3]; rfl
theorem fap23_5 (b o : Nat) : fieldAddrV Tryd.prog 23 (.ptr b o) 5 = some (.ptr b (o + 5)) := fa_ptr _ 23 _ tk23 b o 5 5 3 _ rfl ty3 (by decide)
theorem fae23_5 (l : List AV) (o : Nat) : fieldAddrV Tryd.prog 23 (.ele l o) 5 = some (.ele l (o + 5)) := fa_ele _ 23 _ tk23 l o 5 5 3 _ rfl ty3 (by decide)
theorem fd23_5 (l : List AV) : fieldV Tryd.prog 23 (.agg l) 5 = l[5]? := by rw [fd_agg _ 23 _ tk23 l 5 5 3 _ rfl ty3]; rfl
theorem fap23_6 (b o : Nat) : fieldAddrV Tryd.prog 23 (.ptr b o) 6 = some (.ptr b (o + 6)) := fa_ptr _ 23 _ tk23 b o 6 6 3 _ rfl ty3 (by decide)
theorem fae23_6 (l : List AV) (o : Nat) : fieldAddrV Tryd.prog 23 (.ele l o) 6 = some (.ele l (o + 6)) := fa_ele _ 23 _ tk23 l o 6 6 3 _ rfl ty3 (by decide)
theorem fd23_6 (l : List AV) : fieldV Tryd.prog 23 (.agg l) 6 = l[6]? := by rw [fd_agg _ 23 _ tk23 l 6 6 3 _ rfl ty3]; rfl
theorem fap23_7 (b o : Nat) : fieldAddrV Tryd.prog 23 (.ptr b o) 7 = some (.ptr b (o + 7)) := fa_ptr _ 23 _ tk23 b o 7 7 3 _ rfl ty3 (by decide)
theorem fae23_7 (l : List AV) (o : Nat) : fieldAddrV Tryd.prog 23 (.ele l o) 7 = some (.ele l (o + 7)) := fa_ele _ 23 _ tk23 l o 7 7 3 _ rfl ty3 (by decide)
theorem fd23_7 (l : List AV) : fieldV Tryd.prog 23 (.agg l) 7 = l[7]? := by rw [fd_agg _ 23 _ tk23 l 7 7 3 _ rfl ty3]; rfl
theorem fap23_8 (b o : Nat) : fieldAddrV Tryd.prog 23 (.ptr b o) 8 = some (.ptr b (o + 8)) := fa_ptr _ 23 _ tk23 b o 8 8 3 _ rfl ty3 (by decide)
theorem fae23_8 (l : List AV) (o : Nat) : fieldAddrV Tryd.prog 23 (.ele l o) 8 = some (.ele l (o + 8)) := fa_ele _ 23 _ tk23 l o 8 8 3 _ rfl ty3 (by decide)
theorem fd23_8 (l : List AV) : fieldV Tryd.prog 23 (.agg l) 8 = l[8]? := by rw [fd_agg _ 23 _ tk23 l 8 8 3 _ rfl ty3]; rfl
theorem fap23_9 (b o : Nat) : fieldAddrV Tryd.prog 23 (.ptr b o) 9 = some (.ptr b (o + 9)) := fa_ptr _ 23 _ tk23 b o 9 9 3 _ rfl ty3 (by decide)
theorem fae23_9 (l : List AV) (o : Nat) : fieldAddrV Tryd.prog 23 (.ele l o) 9 = some (.ele l (o + 9)) := fa_ele _ 23 _ tk23 l o 9 9 3 _ rfl ty3 (by decide)
theorem fd23_9 (l : List AV) : fieldV Tryd.prog 23 (.agg l) 9 = l[9]? := by rw [fd_agg _ 23 _ tk23 l 9 9 3 _ rfl ty3]; rfl
theorem ldp25 (H : Heap) (b o : Nat) : loadV Tryd.prog H 25 (.ptr b o) = (hget H b).bind fun k => k[o]? := by rw [load_ptr _ H 25 _ ty25 b o]; rfl
theorem lde25 (H : Heap) (l : List AV) (o : Nat) : loadV Tryd.prog H 25 (.ele l o) = l[o]? := by rw [load_ele _ H 25 _ ty25 l o]; rfl
theorem zr25 : (tyOf Tryd.prog 25).bind (fun ty => ty.zero) = some [.nilFunc] := by rw [ty25]; rfl
theorem ldp27 (H : Heap) (b o : Nat) : loadV Tryd.prog H 27 (.ptr b o) = (hget H b).bind fun k => k[o]? := by rw [load_ptr _ H 27 _ ty27 b o]; rfl
theorem lde27 (H : Heap) (l : List AV) (o : Nat) : loadV Tryd.prog H 27 (.ele l o) = l[o]? := by rw [load_ele _ H 27 _ ty27 l o]; rfl
theorem zr27 : (tyOf Tryd.prog 27).bind (fun ty => ty.zero) = some [.slice none 0 0] := by rw [ty27]; rfl
theorem ias27 (n : Nat) (l : List AV) (k : IntKind) (i : Int) (h0 : 0 ≤ i) (h1 : i < n) : indexAddrV Tryd.prog 27 (.sl n l) (.v (.int k i)) = some (.ele l (i.toNat * 10)) := by rw [ia_sl _ 27 23 _ tk27 ty23, if_pos ⟨h0, h1⟩]
theorem iao27 (z b o n : Nat) (k : IntKind) (i : Int) (h0 : 0 ≤ i) (h1 : i < n) : indexAddrV Tryd.prog 27 (.own z b o n) (.v (.int k i)) = some (.ptr b (o + i.toNat * 10)) := by rw [ia_own _ 27 23 _ tk27 ty23, if_pos ⟨h0, h1⟩]
theorem lns27 (n : Nat) (l : List AV) : lenV (tyOf Tryd.prog 27) (.sl n l) = some (.v (.int .i64 n)) := by rw [ty27]; exact len_sl _ 23 _ _ rfl
theorem lno27 (z b o n : Nat) : lenV (tyOf Tryd.prog 27) (.own z b o n) = some (.v (.int .i64 n)) := by rw [ty27]; exact len_own _ 23 _ _ _ _ rfl
theorem lnn27 (n : Nat) : lenV (tyOf Tryd.prog 27) (.v (.slice none n 0)) = some (.v (.int .i64 n)) := by rw [ty27]; exact len_nil _ 23 _ rfl
theorem ldp28 (H : Heap) (b o : Nat) : loadV Tryd.prog H 28 (.ptr b o) = (hget H b).bind fun k => k[o]? := by rw [load_ptr _ H 28 _ ty28 b o]; rfl
theorem lde28 (H : Heap) (l : List AV) (o : Nat) : loadV Tryd.prog H 28 (.ele l o) = l[o]? := by rw [load_ele _ H 28 _ ty28 l o]; rfl
theorem zr28 : (tyOf Tryd.prog 28).bind (fun ty => ty.zero) = some [.int .i64 0] := by rw [ty28]; rfl
theorem ldp32 (H : Heap) (b o : Nat) : loadV Tryd.prog H 32 (.ptr b o) = (hget H b).bind fun k => k[o]? := by rw [load_ptr _ H 32 _ ty32 b o]; rfl
theorem lde32 (H : Heap) (l : List AV) (o : Nat) : loadV Tryd.prog H 32 (.ele l o) = l[o]? := by rw [load_ele _ H 32 _ ty32 l o]; rfl
theorem zr32 : (tyOf Tryd.prog 32).bind (fun ty => ty.zero) = some [.slice none 0 0] := by rw [ty32]; rfl
theorem ias32 (n : Nat) (l : List AV) (k : IntKind) (i : Int) (h0 : 0 ≤ i) (h1 : i < n) : indexAddrV Tryd.prog 32 (.sl n l) (.v (.int k i)) = some (.ele l (i.toNat * 8)) := by rw [ia_sl _ 32 34 _ tk32 ty34, if_pos ⟨h0, h1⟩]
theorem iao32 (z b o n : Nat) (k : IntKind) (i : Int) (h0 : 0 ≤ i) (h1 : i < n) : indexAddrV Tryd.prog 32 (.own z b o n) (.v (.int k i)) = some (.ptr b (o + i.toNat * 8)) := by rw [ia_own _ 32 34 _ tk32 ty34, if_pos ⟨h0, h1⟩]
theorem lns32 (n : Nat) (l : List AV) : lenV (tyOf Tryd.prog 32) (.sl n l) = some (.v (.int .i64 n)) := by rw [ty32]; exact len_sl _ 34 _ _ rfl
theorem lno32 (z b o n : Nat) : lenV (tyOf Tryd.prog 32) (.own z b o n) = some (.v (.int .i64 n)) := by rw [ty32]; exact len_own _ 34 _ _ _ _ rfl
theorem lnn32 (n : Nat) : lenV (tyOf Tryd.prog 32) (.v (.slice none n 0)) = some (.v (.int .i64 n)) := by rw [ty32]; exact len_nil _ 34 _ rfl
theorem ldp34 (H : Heap) (b o : Nat) : loadV Tryd.prog H 34 (.ptr b o) = (hget H b).bind fun k => partL { size := 8, bytes := 64, agg := true, k := .struct [(0, 3), (1, 3), (2, 3), (3, 3), (4, 3), (5, 3), (6, 3), (7, 4)], zero := some [.int .i64 0, .int .i64 0, .int .i64 0, .int .i64 0, .int .i64 0, .int .i64 0, .int .i64 0, .bool false] } k o := load_ptr _ H 34 _ ty34 b o
theorem lde34 (H : Heap) (l : List AV) (o : Nat) : loadV Tryd.prog H 34 (.ele l o) = partL { size := 8, bytes := 64, agg := true, k := .struct [(0, 3), (1, 3), (2, 3), (3, 3), (4, 3), (5, 3), (6, 3), (7, 4)], zero := some [.int .i64 0, .int .i64 0, .int .i64 0, .int .i64 0, .int .i64 0, .int .i64 0, .int .i64 0, .bool false] } l o := load_ele _ H 34 _ ty34 l o
theorem pl34 (l : List AV) (o : Nat) (h : o + 8 ≤ l.length) : partL { size := 8, bytes := 64, agg := true, k := .struct [(0, 3), (1, 3), (2, 3), (3, 3), (4, 3), (5, 3), (6, 3), (7, 4)], zero := some [.int .i64 0, .int .i64 0, .int .i64 0, .int .i64 0, .int .i64 0, .int .i64 0, .int .i64 0, .bool false] } l o = some (.agg ((l.drop o).take 8)) := by rw [partL_agg _ _ _ rfl, if_pos h]
theorem zr34 : (tyOf Tryd.prog 34).bind (fun ty => ty.zero) = some [.int .i64 0, .int .i64 0, .int .i64 0, .int .i64 0, .int .i64 0, .int .i64 0, .int .i64 0, .bool false] := by rw [ty34]; rfl
theorem fap34_0 (b o : Nat) : fieldAddrV Tryd.prog 34 (.ptr b o) 0 = some (.ptr b (o)) := fa_ptr _ 34 _ tk34 b o 0 0 3 _ rfl ty3 (by decide)
theorem fae34_0 (l : List AV) (o : Nat) : fieldAddrV Tryd.prog 34 (.ele l o) 0 = some (.ele l (o)) := fa_ele _ 34 _ tk34 l o 0 0 3 _ rfl ty3 (by decide)
theorem fd34_0 (l : List AV) : fieldV Tryd.prog 34 (.agg l) 0 = l[0]? := by rw [fd_agg _ 34 _ tk34 l 0 0 3 _ rfl ty3]; rfl
theorem fap34_1 (b o : Nat) : fieldAddrV Tryd.prog 34 (.ptr b o) 1 = some (.ptr b (o + 1)) := fa_ptr _ 34 _ tk34 b o 1 1 3 _ rfl ty3 (by decide)
theorem fae34_1 (l : List AV) (o : Nat) : fieldAddrV Tryd.prog 34 (.ele l o) 1 = some (.ele l (o + 1)) := fa_ele _ 34 _ tk34 l o 1 1 3 _ rfl ty3 (by decide)
theorem fd34_1 (l : List AV) : fieldV Tryd.prog 34 (.agg l) 1 = l[1]? := by rw [fd_agg _ 34 _ tk34 l 1 1 3 _ rfl ty3]; rfl
theorem fap34_2 (b o : Nat) : fieldAddrV Tryd.prog 34 (.ptr b o) 2 = some (.ptr b (o + 2)) := fa_ptr _ 34 _ tk34 b o 2 2 3 _ rfl ty3 (by decide)
theorem fae34_2 (l : List AV) (o : Nat) : fieldAddrV Tryd.prog 34 (.ele l o) 2 = some (.ele l (o + 2)) := fa_ele _ 34 _ tk34 l o 2 2 3 _ rfl ty3 (by decide)
theorem fd34_2 (l : List AV) : fieldV Tryd.prog 34 (.agg l) 2 = l[2]? := by rw [fd_agg _ 34 _ tk34 l 2 2 3 _ rfl ty3]; rfl
theorem fap34_3 (b o : Nat) : fieldAddrV Tryd.prog 34 (.ptr b o) 3 = some (.ptr b (o + 3)) := fa_ptr _ 34 _ tk34 b o 3 3 3 _ rfl ty3 (by decide)
theorem fae34_3 (l : List AV) (o : Nat) : fieldAddrV Tryd.prog 34 (.ele l o) 3 = some (.ele l (o + 3)) := fa_ele _ 34 _ tk34 l o 3 3 3 _ rfl ty3 (by decide)
theorem fd34_3 (l : List AV) : fieldV Tryd.prog 34 (.agg l) 3 = l[3]? := by rw [fd_agg _ 34 _ tk34 l 3 3 3 _ rfl ty3]; rfl
theorem fap34_4 (b o : Nat) : fieldAddrV Tryd.prog 34 (.ptr b o) 4 = some (.ptr b (o + 4)) := fa_ptr _ 34 _ tk34 b o 4 4 3 _ rfl ty3 (by decide)
theorem fae34_4 (l : List AV) (o : Nat) : fieldAddrV Tryd.prog 34 (.ele l o) 4 = some (.ele l (o + 4)) := fa_ele _ 34 _ tk34 l o 4 4 3 _ rfl ty3 (by decide)
theorem fd34_4 (l : List AV) : fieldV Tryd.prog 34 (.agg l) 4 = l[4]? := by rw [fd_agg _ 34 _ tk34 l 4 4 3 _ rfl ty3]; rfl
theorem fap34_5 (b o : Nat) : fieldAddrV Tryd.prog 34 (.ptr b o) 5 = some (.ptr b (o + 5)) := fa_ptr _ 34 _ tk34 b o 5 5 3 _ rfl ty3 (by decide)
theorem fae34_5 (l : List AV) (o : Nat) : fieldAddrV Tryd.prog 34 (.ele l o) 5 = some (.ele l (o + 5)) := fa_ele _ 34 _ tk34 l o 5 5 3 _ rfl ty3 (by decide)
theorem fd34_5 (l : List AV) : fieldV Tryd.prog 34 (.agg l) 5 = l[5]? := by rw [fd_agg _ 34 _ tk34 l 5 5 3 _ rfl ty3]; rfl
theorem fap34_6 (b o : Nat) : fieldAddrV Tryd.prog 34 (.ptr b o) 6 = some (.ptr b (o + 6)) := fa_ptr _ 34 _ tk34 b o 6 6 3 _ rfl ty3 (by decide)
theorem fae34_6 (l : List AV) (o : Nat) : fieldAddrV Tryd.prog 34 (.ele l o) 6 = some (.ele l (o + 6)) := fa_ele _ 34 _ tk34 l o 6 6 3 _ rfl ty3 (by decide)
theorem fd34_6 (l : List AV) : fieldV Tryd.prog 34 (.agg l) 6 = l[6]? := by rw [fd_agg _ 34 _ tk34 l 6 6 3 _ rfl ty3]; rfl
theorem fap34_7 (b o : Nat) : fieldAddrV Tryd.prog 34 (.ptr b o) 7 = some (.ptr b (o + 7)) := fa_ptr _ 34 _ tk34 b o 7 7 4 _ rfl ty4 (by decide)
theorem fae34_7 (l : List AV) (o : Nat) : fieldAddrV Tryd.prog 34 (.ele l o) 7 = some (.ele l (o + 7)) := fa_ele _ 34 _ tk34 l o 7 7 4 _ rfl ty4 (by decide)
theorem fd34_7 (l : List AV) : fieldV Tryd.prog 34 (.agg l) 7 = l[7]? := by rw [fd_agg _ 34 _ tk34 l 7 7 4 _ rfl ty4]; rfl
theorem ldp43 (H : Heap) (b o : Nat) : loadV Tryd.prog H 43 (.ptr b o) = (hget H b).bind fun k => k[o]? := by rw [load_ptr _ H 43 _ ty43 b o]; rfl
theorem lde43 (H : Heap) (l : List AV) (o : Nat) : loadV Tryd.prog H 43 (.ele l o) = l[o]? := by rw [load_ele _ H 43 _ ty43 l o]; rfl
theorem zr43 : (tyOf Tryd.prog 43).bind (fun ty => ty.zero) = some [.slice none 0 0] := by rw [ty43]; rfl
theorem ias43 (n : Nat) (l : List AV) (k : IntKind) (i : Int) (h0 : 0 ≤ i) (h1 : i < n) : indexAddrV Tryd.prog 43 (.sl n l) (.v (.int k i)) = some (.ele l (i.toNat)) := by rw [ia_sl _ 43 9 _ tk43 ty9, if_pos ⟨h0, h1⟩]; rw [Nat.mul_one]
theorem iao43 (z b o n : Nat) (k : IntKind) (i : Int) (h0 : 0 ≤ i) (h1 : i < n) : indexAddrV Tryd.prog 43 (.own z b o n) (.v (.int k i)) = some (.ptr b (o + i.toNat)) := by rw [ia_own _ 43 9 _ tk43 ty9, if_pos ⟨h0, h1⟩]; rw [Nat.mul_one]
theorem lns43 (n : Nat) (l : List AV) : lenV (tyOf Tryd.prog 43) (.sl n l) = some (.v (.int .i64 n)) := by rw [ty43]; exact len_sl _ 9 _ _ rfl
theorem lno43 (z b o n : Nat) : lenV (tyOf Tryd.prog 43) (.own z b o n) = some (.v (.int .i64 n)) := by rw [ty43]; exact len_own _ 9 _ _ _ _ rfl
theorem lnn43 (n : Nat) : lenV (tyOf Tryd.prog 43) (.v (.slice none n 0)) = some (.v (.int .i64 n)) := by rw [ty43]; exact len_nil _ 9 _ rfl
theorem ldp49 (H : Heap) (b o : Nat) : loadV Tryd.prog H 49 (.ptr b o) = (hget H b).bind fun k => k[o]? := by rw [load_ptr _ H 49 _ ty49 b o]; rfl
theorem lde49 (H : Heap) (l : List AV) (o : Nat) : loadV Tryd.prog H 49 (.ele l o) = l[o]? := by rw [load_ele _ H 49 _ ty49 l o]; rfl
theorem zr49 : (tyOf Tryd.prog 49).bind (fun ty => ty.zero) = some [.int .u64 0] := by rw [ty49]; rfl
theorem ldp51 (H : Heap) (b o : Nat) : loadV Tryd.prog H 51 (.ptr b o) = (hget H b).bind fun k => partL { size := 2, bytes := 16, agg := true, k := .struct [(0, 2), (1, 49)], zero := some [.int .i64 0, .int .u64 0] } k o := load_ptr _ H 51 _ ty51 b o
theorem lde51 (H : Heap) (l : List AV) (o : Nat) : loadV Tryd.prog H 51 (.ele l o) = partL { size := 2, bytes := 16, agg := true, k := .struct [(0, 2), (1, 49)], zero := some [.int .i64 0, .int .u64 0] } l o := load_ele _ H 51 _ ty51 l o
theorem pl51 (l : List AV) (o : Nat) (h : o + 2 ≤ l.length) : partL { size := 2, bytes := 16, agg := true, k := .struct [(0, 2), (1, 49)], zero := some [.int .i64 0, .int .u64 0] } l o = some (.agg ((l.drop o).take 2)) := by rw [partL_agg _ _ _ rfl, if_pos h]
theorem zr51 : (tyOf Tryd.prog 51).bind (fun ty => ty.zero) = some [.int .i64 0, .int .u64 0] := by rw [ty51]; rfl
theorem fap51_0 (b o : Nat) : fieldAddrV Tryd.prog 51 (.ptr b o) 0 = some (.ptr b (o)) := fa_ptr _ 51 _ tk51 b o 0 0 2 _ rfl ty2 (by decide)
theorem fae51_0 (l : List AV) (o : Nat) : fieldAddrV Tryd.prog 51 (.ele l o) 0 = some (.ele l (o)) := fa_ele _ 51 _ tk51 l o 0 0 2 _ rfl ty2 (by decide)
theorem fd51_0 (l : List AV) : fieldV Tryd.prog 51 (.agg l) 0 = l[0]? := by rw [fd_agg _ 51 _ tk51 l 0 0 2 _ rfl ty2]; rfl
theorem fap51_1 (b o : Nat) : fieldAddrV Tryd.prog 51 (.ptr b o) 1 = some (.ptr b (o + 1)) := fa_ptr _ 51 _ tk51 b o 1 1 49 _ rfl ty49 (by decide)
theorem fae51_1 (l : List AV) (o : Nat) : fieldAddrV Tryd.prog 51 (.ele l o) 1 = some (.ele l (o + 1)) := fa_ele _ 51 _ tk51 l o 1 1 49 _ rfl ty49 (by decide)
theorem fd51_1 (l : List AV) : fieldV Tryd.prog 51 (.agg l) 1 = l[1]? := by rw [fd_agg _ 51 _ tk51 l 1 1 49 _ rfl ty49]; rfl
theorem ldp53 (H : Heap) (b o : Nat) : loadV Tryd.prog H 53 (.ptr b o) = (hget H b).bind fun k => k[o]? := by rw [load_ptr _ H 53 _ ty53 b o]; rfl
theorem lde53 (H : Heap) (l : List AV) (o : Nat) : loadV Tryd.prog H 53 (.ele l o) = l[o]? := by rw [load_ele _ H 53 _ ty53 l o]; rfl
theorem zr53 : (tyOf Tryd.prog 53).bind (fun ty => ty.zero) = some [.nilFunc] := by rw [ty53]; rfl
theorem ldp60 (H : Heap) (b o : Nat) : loadV Tryd.prog H 60 (.ptr b o) = (hget H b).bind fun k => k[o]? := by rw [load_ptr _ H 60 _ ty60 b o]; rfl
theorem lde60 (H : Heap) (l : List AV) (o : Nat) : loadV Tryd.prog H 60 (.ele l o) = l[o]? := by rw [load_ele _ H 60 _ ty60 l o]; rfl
theorem zr60 : (tyOf Tryd.prog 60).bind (fun ty => ty.zero) = some [.pointer none] := by rw [ty60]; rfl
theorem ldp65 (H : Heap) (b o : Nat) : loadV Tryd.prog H 65 (.ptr b o) = (hget H b).bind fun k => k[o]? := by rw [load_ptr _ H 65 _ ty65 b o]; rfl
theorem lde65 (H : Heap) (l : List AV) (o : Nat) : loadV Tryd.prog H 65 (.ele l o) = l[o]? := by rw [load_ele _ H 65 _ ty65 l o]; rfl
theorem zr65 : (tyOf Tryd.prog 65).bind (fun ty => ty.zero) = some [.pointer none] := by rw [ty65]; rfl
theorem ldp66 (H : Heap) (b o : Nat) : loadV Tryd.prog H 66 (.ptr b o) = (hget H b).bind fun k => k[o]? := by rw [load_ptr _ H 66 _ ty66 b o]; rfl
theorem lde66 (H : Heap) (l : List AV) (o : Nat) : loadV Tryd.prog H 66 (.ele l o) = l[o]? := by rw [load_ele _ H 66 _ ty66 l o]; rfl
theorem zr66 : (tyOf Tryd.prog 66).bind (fun ty => ty.zero) = some [.slice none 0 0] := by rw [ty66]; rfl
theorem ias66 (n : Nat) (l : List AV) (k : IntKind) (i : Int) (h0 : 0 ≤ i) (h1 : i < n) : indexAddrV Tryd.prog 66 (.sl n l) (.v (.int k i)) = some (.ele l (i.toNat)) := by rw [ia_sl _ 66 5 _ tk66 ty5, if_pos ⟨h0, h1⟩]; rw [Nat.mul_one]
theorem iao66 (z b o n : Nat) (k : IntKind) (i : Int) (h0 : 0 ≤ i) (h1 : i < n) : indexAddrV Tryd.prog 66 (.own z b o n) (.v (.int k i)) = some (.ptr b (o + i.toNat)) := by rw [ia_own _ 66 5 _ tk66 ty5, if_pos ⟨h0, h1⟩]; rw [Nat.mul_one]
theorem lns66 (n : Nat) (l : List AV) : lenV (tyOf Tryd.prog 66) (.sl n l) = some (.v (.int .i64 n)) := by rw [ty66]; exact len_sl _ 5 _ _ rfl
theorem lno66 (z b o n : Nat) : lenV (tyOf Tryd.prog 66) (.own z b o n) = some (.v (.int .i64 n)) := by rw [ty66]; exact len_own _ 5 _ _ _ _ rfl
theorem lnn66 (n : Nat) : lenV (tyOf Tryd.prog 66) (.v (.slice none n 0)) = some (.v (.int .i64 n)) := by rw [ty66]; exact len_nil _ 5 _ rfl
theorem ldp68 (H : Heap) (b o : Nat) : loadV Tryd.prog H 68 (.ptr b o) = (hget H b).bind fun k => partL { size := 2, bytes := 32, agg := true, k := .struct [(0, 65), (1, 66)], zero := some [.pointer none, .slice none 0 0] } k o := load_ptr _ H 68 _ ty68 b o
theorem lde68 (H : Heap) (l : List AV) (o : Nat) : loadV Tryd.prog H 68 (.ele l o) = partL { size := 2, bytes := 32, agg := true, k := .struct [(0, 65), (1, 66)], zero := some [.pointer none, .slice none 0 0] } l o := load_ele _ H 68 _ ty68 l o
theorem pl68 (l : List AV) (o : Nat) (h : o + 2 ≤ l.length) : partL { size := 2, bytes := 32, agg := true, k := .struct [(0, 65), (1, 66)], zero := some [.pointer none, .slice none 0 0] } l o = some (.agg ((l.drop o).take 2)) := by rw [partL_agg _ _ _ rfl, if_pos h]
theorem zr68 : (tyOf Tryd.prog 68).bind (fun ty => ty.zero) = some [.pointer none, .slice none 0 0] := by rw [ty68]; rfl
theorem fap68_0 (b o : Nat) : fieldAddrV Tryd.prog 68 (.ptr b o) 0 = some (.ptr b (o)) := fa_ptr _ 68 _ tk68 b o 0 0 65 _ rfl ty65 (by decide)
theorem fae68_0 (l : List AV) (o : Nat) : fieldAddrV Tryd.prog 68 (.ele l o) 0 = some (.ele l (o)) := fa_ele _ 68 _ tk68 l o 0 0 65 _ rfl ty65 (by decide)
theorem fd68_0 (l : List AV) : fieldV Tryd.prog 68 (.agg l) 0 = l[0]? := by rw [fd_agg _ 68 _ tk68 l 0 0 65 _ rfl ty65]; rfl
theorem fap68_1 (b o : Nat) : fieldAddrV Tryd.prog 68 (.ptr b o) 1 = some (.ptr b (o + 1)) := fa_ptr _ 68 _ tk68 b o 1 1 66 _ rfl ty66 (by decide)
theorem fae68_1 (l : List AV) (o : Nat) : fieldAddrV Tryd.prog 68 (.ele l o) 1 = some (.ele l (o + 1)) := fa_ele _ 68 _ tk68 l o 1 1 66 _ rfl ty66 (by decide)
theorem fd68_1 (l : List AV) : fieldV Tryd.prog 68 (.agg l) 1 = l[1]? := by rw [fd_agg _ 68 _ tk68 l 1 1 66 _ rfl ty66]; rfl
theorem ldp71 (H : Heap) (b o : Nat) : loadV Tryd.prog H 71 (.ptr b o) = (hget H b).bind fun k => k[o]? := by rw [load_ptr _ H 71 _ ty71 b o]; rfl
theorem lde71 (H : Heap) (l : List AV) (o : Nat) : loadV Tryd.prog H 71 (.ele l o) = l[o]? := by rw [load_ele _ H 71 _ ty71 l o]; rfl
theorem zr71 : (tyOf Tryd.prog 71).bind (fun ty => ty.zero) = some [.nilIface] := by rw [ty71]; rfl
theorem ldp74 (H : Heap) (b o : Nat) : loadV Tryd.prog H 74 (.ptr b o) = (hget H b).bind fun k => partL { size := 5, bytes := 40, agg := true, k := .array 5 3, zero := some [.int .i64 0, .int .i64 0, .int .i64 0, .int .i64 0, .int .i64 0] } k o := load_ptr _ H 74 _ ty74 b o
theorem lde74 (H : Heap) (l : List AV) (o : Nat) : loadV Tryd.prog H 74 (.ele l o) = partL { size := 5, bytes := 40, agg := true, k := .array 5 3, zero := some [.int .i64 0, .int .i64 0, .int .i64 0, .int .i64 0, .int .i64 0] } l o := load_ele _ H 74 _ ty74 l o
theorem pl74 (l : List AV) (o : Nat) (h : o + 5 ≤ l.length) : partL { size := 5, bytes := 40, agg := true, k := .array 5 3, zero := some [.int .i64 0, .int .i64 0, .int .i64 0, .int .i64 0, .int .i64 0] } l o = some (.agg ((l.drop o).take 5)) := by rw [partL_agg _ _ _ rfl, if_pos h]
theorem zr74 : (tyOf Tryd.prog 74).bind (fun ty => ty.zero) = some [.int .i64 0, .int .i64 0, .int .i64 0, .int .i64 0, .int .i64 0] := by rw [ty74]; rfl
theorem ldp76 (H : Heap) (b o : Nat) : loadV Tryd.prog H 76 (.ptr b o) = (hget H b).bind fun k => k[o]? := by rw [load_ptr _ H 76 _ ty76 b o]; rfl
theorem lde76 (H : Heap) (l : List AV) (o : Nat) : loadV Tryd.prog H 76 (.ele l o) = l[o]? := by rw [load_ele _ H 76 _ ty76 l o]; rfl
theorem zr76 : (tyOf Tryd.prog 76).bind (fun ty => ty.zero) = some [.slice none 0 0] := by rw [ty76]; rfl
theorem ias76 (n : Nat) (l : List AV) (k : IntKind) (i : Int) (h0 : 0 ≤ i) (h1 : i < n) : indexAddrV Tryd.prog 76 (.sl n l) (.v (.int k i)) = some (.ele l (i.toNat)) := by rw [ia_sl _ 76 3 _ tk76 ty3, if_pos ⟨h0, h1⟩]; rw [Nat.mul_one]
theorem iao76 (z b o n : Nat) (k : IntKind) (i : Int) (h0 : 0 ≤ i) (h1 : i < n) : indexAddrV Tryd.prog 76 (.own z b o n) (.v (.int k i)) = some (.ptr b (o + i.toNat)) := by rw [ia_own _ 76 3 _ tk76 ty3, if_pos ⟨h0, h1⟩]; rw [Nat.mul_one]
theorem lns76 (n : Nat) (l : List AV) : lenV (tyOf Tryd.prog 76) (.sl n l) = some (.v (.int .i64 n)) := by rw [ty76]; exact len_sl _ 3 _ _ rfl
theorem lno76 (z b o n : Nat) : lenV (tyOf Tryd.prog 76) (.own z b o n) = some (.v (.int .i64 n)) := by rw [ty76]; exact len_own _ 3 _ _ _ _ rfl
theorem lnn76 (n : Nat) : lenV (tyOf Tryd.prog 76) (.v (.slice none n 0)) = some (.v (.int .i64 n)) := by rw [ty76]; exact len_nil _ 3 _ rfl
theorem ldp77 (H : Heap) (b o : Nat) : loadV Tryd.prog H 77 (.ptr b o) = (hget H b).bind fun k => partL { size := 4, bytes := 32, agg := true, k := .array 4 3, zero := some [.int .i64 0, .int .i64 0, .int .i64 0, .int .i64 0] } k o := load_ptr _ H 77 _ ty77 b o
theorem lde77 (H : Heap) (l : List AV) (o : Nat) : loadV Tryd.prog H 77 (.ele l o) = partL { size := 4, bytes := 32, agg := true, k := .array 4 3, zero := some [.int .i64 0, .int .i64 0, .int .i64 0, .int .i64 0] } l o := load_ele _ H 77 _ ty77 l o
theorem pl77 (l : List AV) (o : Nat) (h : o + 4 ≤ l.length) : partL { size := 4, bytes := 32, agg := true, k := .array 4 3, zero := some [.int .i64 0, .int .i64 0, .int .i64 0, .int .i64 0] } l o = some (.agg ((l.drop o).take 4)) := by rw [partL_agg _ _ _ rfl, if_pos h]
theorem zr77 : (tyOf Tryd.prog 77).bind (fun ty => ty.zero) = some [.int .i64 0, .int .i64 0, .int .i64 0, .int .i64 0] := by rw [ty77]; rfl
theorem ldp92 (H : Heap) (b o : Nat) : loadV Tryd.prog H 92 (.ptr b o) = (hget H b).bind fun k => k[o]? := by rw [load_ptr _ H 92 _ ty92 b o]; rfl
theorem lde92 (H : Heap) (l : List AV) (o : Nat) : loadV Tryd.prog H 92 (.ele l o) = l[o]? := by rw [load_ele _ H 92 _ ty92 l o]; rfl
theorem zr92 : (tyOf Tryd.prog 92).bind (fun ty => ty.zero) = some [.int .u64 0] := by rw [ty92]; rfl
theorem ldp93 (H : Heap) (b o : Nat) : loadV Tryd.prog H 93 (.ptr b o) = (hget H b).bind fun k => k[o]? := by rw [load_ptr _ H 93 _ ty93 b o]; rfl
theorem lde93 (H : Heap) (l : List AV) (o : Nat) : loadV Tryd.prog H 93 (.ele l o) = l[o]? := by rw [load_ele _ H 93 _ ty93 l o]; rfl
theorem zr93 : (tyOf Tryd.prog 93).bind (fun ty => ty.zero) = some [.pointer none] := by rw [ty93]; rfl
theorem ldp95 (H : Heap) (b o : Nat) : loadV Tryd.prog H 95 (.ptr b o) = (hget H b).bind fun k => partL { size := 4, bytes := 32, agg := true, k := .array 4 49, zero := some [.int .u64 0, .int .u64 0, .int .u64 0, .int .u64 0] } k o := load_ptr _ H 95 _ ty95 b o
theorem lde95 (H : Heap) (l : List AV) (o : Nat) : loadV Tryd.prog H 95 (.ele l o) = partL { size := 4, bytes := 32, agg := true, k := .array 4 49, zero := some [.int .u64 0, .int .u64 0, .int .u64 0, .int .u64 0] } l o := load_ele _ H 95 _ ty95 l o
theorem pl95 (l : List AV) (o : Nat) (h : o + 4 ≤ l.length) : partL { size := 4, bytes := 32, agg := true, k := .array 4 49, zero := some [.int .u64 0, .int .u64 0, .int .u64 0, .int .u64 0] } l o = some (.agg ((l.drop o).take 4)) := by rw [partL_agg _ _ _ rfl, if_pos h]
theorem zr95 : (tyOf Tryd.prog 95).bind (fun ty => ty.zero) = some [.int .u64 0, .int .u64 0, .int .u64 0, .int .u64 0] := by rw [ty95]; rfl
theorem ldp106 (H : Heap) (b o : Nat) : loadV Tryd.prog H 106 (.ptr b o) = (hget H b).bind fun k => k[o]? := by rw [load_ptr _ H 106 _ ty106 b o]; rfl
theorem lde106 (H : Heap) (l : List AV) (o : Nat) : loadV Tryd.prog H 106 (.ele l o) = l[o]? := by rw [load_ele _ H 106 _ ty106 l o]; rfl
theorem zr106 : (tyOf Tryd.prog 106).bind (fun ty => ty.zero) = some [.int .i64 0] := by rw [ty106]; rfl
theorem ldp114 (H : Heap) (b o : Nat) : loadV Tryd.prog H 114 (.ptr b o) = (hget H b).bind fun k => k[o]? := by rw [load_ptr _ H 114 _ ty114 b o]; rfl
theorem lde114 (H : Heap) (l : List AV) (o : Nat) : loadV Tryd.prog H 114 (.ele l o) = l[o]? := by rw [load_ele _ H 114 _ ty114 l o]; rfl
theorem zr114 : (tyOf Tryd.prog 114).bind (fun ty => ty.zero) = some [.int .u32 0] := by rw [ty114]; rfl
theorem ldp118 (H : Heap) (b o : Nat) : loadV Tryd.prog H 118 (.ptr b o) = (hget H b).bind fun k => partL { size := 8, bytes := 64, agg := true, k := .array 8 49, zero := some [.int .u64 0, .int .u64 0, .int .u64 0, .int .u64 0, .int .u64 0, .int .u64 0, .int .u64 0, .int .u64 0] } k o := load_ptr _ H 118 _ ty118 b o
theorem lde118 (H : Heap) (l : List AV) (o : Nat) : loadV Tryd.prog H 118 (.ele l o) = partL { size := 8, bytes := 64, agg := true, k := .array 8 49, zero := some [.int .u64 0, .int .u64 0, .int .u64 0, .int .u64 0, .int .u64 0, .int .u64 0, .int .u64 0, .int .u64 0] } l o := load_ele _ H 118 _ ty118 l o
theorem pl118 (l : List AV) (o : Nat) (h : o + 8 ≤ l.length) : partL { size := 8, bytes := 64, agg := true, k := .array 8 49, zero := some [.int .u64 0, .int .u64 0, .int .u64 0, .int .u64 0, .int .u64 0, .int .u64 0, .int .u64 0, .int .u64 0] } l o = some (.agg ((l.drop o).take 8)) := by rw [partL_agg _ _ _ rfl, if_pos h]
theorem zr118 : (tyOf Tryd.prog 118).bind (fun ty => ty.zero) = some [.int .u64 0, .int .u64 0, .int .u64 0, .int .u64 0, .int .u64 0, .int .u64 0, .int .u64 0, .int .u64 0] := by rw [ty118]; rfl

attribute [go_sem] sigP ldp1 lde1 zr1 ldp2 lde2 zr2 ldp3 lde3 zr3 ldp4 lde4 zr4 beq4 bne4 ldp5 lde5 zr5 ldp6 lde6
  zr6 ldp7 lde7 pl7 zr7 fap7_0 fae7_0 fd7_0 fap7_1 fae7_1 fd7_1 fap7_2 fae7_2 fd7_2 fap7_3 fae7_3 fd7_3 ldp8 lde8 pl8
  zr8 fap8_0 fae8_0 fd8_0 fap8_1 fae8_1 fd8_1 fap8_2 fae8_2 fd8_2 fap8_3 fae8_3 fd8_3 ldp9 lde9 zr9 lnt9 ldp23 lde23 pl23
  zr23 fap23_0 fae23_0 fd23_0 fap23_1 fae23_1 fd23_1 fap23_2 fae23_2 fd23_2 fap23_3 fae23_3 fd23_3 fap23_4 fae23_4 fd23_4 fap23_5 fae23_5 fd23_5 fap23_6
  fae23_6 fd23_6 fap23_7 fae23_7 fd23_7 fap23_8 fae23_8 fd23_8 fap23_9 fae23_9 fd23_9 ldp25 lde25 zr25 ldp27 lde27 zr27 ias27 iao27 lns27
  lno27 lnn27 ldp28 lde28 zr28 ldp32 lde32 zr32 ias32 iao32 lns32 lno32 lnn32 ldp34 lde34 pl34 zr34 fap34_0 fae34_0 fd34_0
  fap34_1 fae34_1 fd34_1 fap34_2 fae34_2 fd34_2 fap34_3 fae34_3 fd34_3 fap34_4 fae34_4 fd34_4 fap34_5 fae34_5 fd34_5 fap34_6 fae34_6 fd34_6 fap34_7 fae34_7
  fd34_7 ldp43 lde43 zr43 ias43 iao43 lns43 lno43 lnn43 ldp49 lde49 zr49 ldp51 lde51 pl51 zr51 fap51_0 fae51_0 fd51_0 fap51_1
  fae51_1 fd51_1 ldp53 lde53 zr53 ldp60 lde60 zr60 ldp65 lde65 zr65 ldp66 lde66 zr66 ias66 iao66 lns66 lno66 lnn66 ldp68
  lde68 pl68 zr68 fap68_0 fae68_0 fd68_0 fap68_1 fae68_1 fd68_1 ldp71 lde71 zr71 ldp74 lde74 pl74 zr74 ldp76 lde76 zr76 ias76
  iao76 lns76 lno76 lnn76 ldp77 lde77 pl77 zr77 ldp92 lde92 zr92 ldp93 lde93 zr93 ldp95 lde95 pl95 zr95 ldp106 lde106
  zr106 ldp114 lde114 zr114 ldp118 lde118 pl118 zr118
end Go.Proofs.YtfnapmdedmbdbaaDoor
