/-
  Texts of TopSeason, part 6 of 16. What loads, indexing, fields and lengths yield, type by type. Written by program (typack.py).
-/
import Derived.Test.YtdmeioppkannlaaKTopSeason4
import Derived.Test.YtdmeioppkannlaaKTopSeason1
import Derived.KernelRfl
import Derived.Shelf.Bits.Mul64
import Derived.Test.YtdmeioppkannlaaProg
import Derived.Shelf.SlSortCmp.InsertionK
import Derived.Laws.Externs
section
namespace Go.Proofs.Ytdmeioppkannlaa
open Go Go.Am

theorem ldp2 (H : Heap) (b o : Nat) : loadV Try.prog H 2 (.ptr b o) = (hget H b).bind fun k => k[o]? := by rw [load_ptr _ H 2 _ ty2 b o]; rfl
theorem lde2 (H : Heap) (l : List AV) (o : Nat) : loadV Try.prog H 2 (.ele l o) = l[o]? := by rw [load_ele _ H 2 _ ty2 l o]; rfl
theorem ldp3 (H : Heap) (b o : Nat) : loadV Try.prog H 3 (.ptr b o) = (hget H b).bind fun k => k[o]? := by rw [load_ptr _ H 3 _ ty3 b o]; rfl
theorem lde3 (H : Heap) (l : List AV) (o : Nat) : loadV Try.prog H 3 (.ele l o) = l[o]? := by rw [load_ele _ H 3 _ ty3 l o]; rfl
theorem ldp4 (H : Heap) (b o : Nat) : loadV Try.prog H 4 (.ptr b o) = (hget H b).bind fun k => k[o]? := by rw [load_ptr _ H 4 _ ty4 b o]; rfl
theorem lde4 (H : Heap) (l : List AV) (o : Nat) : loadV Try.prog H 4 (.ele l o) = l[o]? := by rw [load_ele _ H 4 _ ty4 l o]; rfl
theorem beq4 (a b : Bool) : binV Try.prog .eql 4 (.v (.bool a)) (.v (.bool b)) = some (.v (.bool (a == b))) := by simp only [binV, tk4]
theorem bne4 (a b : Bool) : binV Try.prog .neq 4 (.v (.bool a)) (.v (.bool b)) = some (.v (.bool (!(a == b)))) := by simp only [binV, tk4]
theorem lde5 (H : Heap) (l : List AV) (o : Nat) : loadV Try.prog H 5 (.ele l o) = l[o]? := by rw [load_ele _ H 5 _ ty5 l o]; rfl
theorem ias22 (n : Nat) (l : List AV) (k : IntKind) (i : Int) (h0 : 0 ≤ i) (h1 : i < n) : indexAddrV Try.prog 22 (.sl n l) (.v (.int k i)) = some (.ele l (i.toNat)) := by rw [ia_sl _ 22 5 _ tk22 ty5, if_pos ⟨h0, h1⟩]; rw [Nat.mul_one]
theorem lns22 (n : Nat) (l : List AV) : lenV (tyOf Try.prog 22) (.sl n l) = some (.v (.int .i64 n)) := by rw [ty22]; exact len_sl _ 5 _ _ rfl
theorem ias24 (n : Nat) (l : List AV) (k : IntKind) (i : Int) (h0 : 0 ≤ i) (h1 : i < n) : indexAddrV Try.prog 24 (.sl n l) (.v (.int k i)) = some (.ele l (i.toNat * 3)) := by rw [ia_sl _ 24 30 _ tk24 ty30, if_pos ⟨h0, h1⟩]
theorem lns24 (n : Nat) (l : List AV) : lenV (tyOf Try.prog 24) (.sl n l) = some (.v (.int .i64 n)) := by rw [ty24]; exact len_sl _ 30 _ _ rfl
theorem ldp28 (H : Heap) (b o : Nat) : loadV Try.prog H 28 (.ptr b o) = (hget H b).bind fun k => k[o]? := by rw [load_ptr _ H 28 _ ty28 b o]; rfl
theorem ias28 (n : Nat) (l : List AV) (k : IntKind) (i : Int) (h0 : 0 ≤ i) (h1 : i < n) : indexAddrV Try.prog 28 (.sl n l) (.v (.int k i)) = some (.ele l (i.toNat * 2)) := by rw [ia_sl _ 28 31 _ tk28 ty31, if_pos ⟨h0, h1⟩]
theorem iao28 (z b o n : Nat) (k : IntKind) (i : Int) (h0 : 0 ≤ i) (h1 : i < n) : indexAddrV Try.prog 28 (.own z b o n) (.v (.int k i)) = some (.ptr b (o + i.toNat * 2)) := by rw [ia_own _ 28 31 _ tk28 ty31, if_pos ⟨h0, h1⟩]
theorem lns28 (n : Nat) (l : List AV) : lenV (tyOf Try.prog 28) (.sl n l) = some (.v (.int .i64 n)) := by rw [ty28]; exact len_sl _ 31 _ _ rfl
theorem lno28 (z b o n : Nat) : lenV (tyOf Try.prog 28) (.own z b o n) = some (.v (.int .i64 n)) := by rw [ty28]; exact len_own _ 31 _ _ _ _ rfl
theorem lnn28 (n : Nat) : lenV (tyOf Try.prog 28) (.v (.slice none n 0)) = some (.v (.int .i64 n)) := by rw [ty28]; exact len_nil _ 31 _ rfl
theorem lde30 (H : Heap) (l : List AV) (o : Nat) : loadV Try.prog H 30 (.ele l o) = partL { size := 3, bytes := 24, agg := true, k := .struct [(0, 3), (1, 3), (2, 3)], zero := some [.int .i64 0, .int .i64 0, .int .i64 0] } l o := load_ele _ H 30 _ ty30 l o
theorem pl30 (l : List AV) (o : Nat) (h : o + 3 ≤ l.length) : partL { size := 3, bytes := 24, agg := true, k := .struct [(0, 3), (1, 3), (2, 3)], zero := some [.int .i64 0, .int .i64 0, .int .i64 0] } l o = some (.agg ((l.drop o).take 3)) := by rw [partL_agg _ _ _ rfl, if_pos h]
theorem fap30_1 (b o : Nat) : fieldAddrV Try.prog 30 (.ptr b o) 1 = some (.ptr b (o + 1)) := fa_ptr _ 30 _ tk30 b o 1 1 3 _ rfl ty3 (by decide)
theorem fap30_2 (b o : Nat) : fieldAddrV Try.prog 30 (.ptr b o) 2 = some (.ptr b (o + 2)) := fa_ptr _ 30 _ tk30 b o 2 2 3 _ rfl ty3 (by decide)
theorem ldp31 (H : Heap) (b o : Nat) : loadV Try.prog H 31 (.ptr b o) = (hget H b).bind fun k => partL { size := 2, bytes := 16, agg := true, k := .array 2 3, zero := some [.int .i64 0, .int .i64 0] } k o := load_ptr _ H 31 _ ty31 b o
theorem lde31 (H : Heap) (l : List AV) (o : Nat) : loadV Try.prog H 31 (.ele l o) = partL { size := 2, bytes := 16, agg := true, k := .array 2 3, zero := some [.int .i64 0, .int .i64 0] } l o := load_ele _ H 31 _ ty31 l o
theorem pl31 (l : List AV) (o : Nat) (h : o + 2 ≤ l.length) : partL { size := 2, bytes := 16, agg := true, k := .array 2 3, zero := some [.int .i64 0, .int .i64 0] } l o = some (.agg ((l.drop o).take 2)) := by rw [partL_agg _ _ _ rfl, if_pos h]
theorem zr31 : (tyOf Try.prog 31).bind (fun ty => ty.zero) = some [.int .i64 0, .int .i64 0] := by rw [ty31]; rfl
theorem iao32 (z b o n : Nat) (k : IntKind) (i : Int) (h0 : 0 ≤ i) (h1 : i < n) : indexAddrV Try.prog 32 (.own z b o n) (.v (.int k i)) = some (.ptr b (o + i.toNat * 8)) := by rw [ia_own _ 32 46 _ tk32 ty46, if_pos ⟨h0, h1⟩]
theorem lno32 (z b o n : Nat) : lenV (tyOf Try.prog 32) (.own z b o n) = some (.v (.int .i64 n)) := by rw [ty32]; exact len_own _ 46 _ _ _ _ rfl
theorem lnn32 (n : Nat) : lenV (tyOf Try.prog 32) (.v (.slice none n 0)) = some (.v (.int .i64 n)) := by rw [ty32]; exact len_nil _ 46 _ rfl
theorem ias33 (n : Nat) (l : List AV) (k : IntKind) (i : Int) (h0 : 0 ≤ i) (h1 : i < n) : indexAddrV Try.prog 33 (.sl n l) (.v (.int k i)) = some (.ele l (i.toNat)) := by rw [ia_sl _ 33 4 _ tk33 ty4, if_pos ⟨h0, h1⟩]; rw [Nat.mul_one]
theorem iao33 (z b o n : Nat) (k : IntKind) (i : Int) (h0 : 0 ≤ i) (h1 : i < n) : indexAddrV Try.prog 33 (.own z b o n) (.v (.int k i)) = some (.ptr b (o + i.toNat)) := by rw [ia_own _ 33 4 _ tk33 ty4, if_pos ⟨h0, h1⟩]; rw [Nat.mul_one]
theorem ldp34 (H : Heap) (b o : Nat) : loadV Try.prog H 34 (.ptr b o) = (hget H b).bind fun k => k[o]? := by rw [load_ptr _ H 34 _ ty34 b o]; rfl
theorem ias34 (n : Nat) (l : List AV) (k : IntKind) (i : Int) (h0 : 0 ≤ i) (h1 : i < n) : indexAddrV Try.prog 34 (.sl n l) (.v (.int k i)) = some (.ele l (i.toNat)) := by rw [ia_sl _ 34 3 _ tk34 ty3, if_pos ⟨h0, h1⟩]; rw [Nat.mul_one]
theorem iao34 (z b o n : Nat) (k : IntKind) (i : Int) (h0 : 0 ≤ i) (h1 : i < n) : indexAddrV Try.prog 34 (.own z b o n) (.v (.int k i)) = some (.ptr b (o + i.toNat)) := by rw [ia_own _ 34 3 _ tk34 ty3, if_pos ⟨h0, h1⟩]; rw [Nat.mul_one]
theorem lns34 (n : Nat) (l : List AV) : lenV (tyOf Try.prog 34) (.sl n l) = some (.v (.int .i64 n)) := by rw [ty34]; exact len_sl _ 3 _ _ rfl
theorem lno34 (z b o n : Nat) : lenV (tyOf Try.prog 34) (.own z b o n) = some (.v (.int .i64 n)) := by rw [ty34]; exact len_own _ 3 _ _ _ _ rfl
theorem ldp36 (H : Heap) (b o : Nat) : loadV Try.prog H 36 (.ptr b o) = (hget H b).bind fun k => partL { size := 2, bytes := 48, agg := true, k := .struct [(0, 34), (1, 28)], zero := some [.slice none 0 0, .slice none 0 0] } k o := load_ptr _ H 36 _ ty36 b o
theorem pl36 (l : List AV) (o : Nat) (h : o + 2 ≤ l.length) : partL { size := 2, bytes := 48, agg := true, k := .struct [(0, 34), (1, 28)], zero := some [.slice none 0 0, .slice none 0 0] } l o = some (.agg ((l.drop o).take 2)) := by rw [partL_agg _ _ _ rfl, if_pos h]
theorem zr36 : (tyOf Try.prog 36).bind (fun ty => ty.zero) = some [.slice none 0 0, .slice none 0 0] := by rw [ty36]; rfl
theorem fap36_0 (b o : Nat) : fieldAddrV Try.prog 36 (.ptr b o) 0 = some (.ptr b (o)) := fa_ptr _ 36 _ tk36 b o 0 0 34 _ rfl ty34 (by decide)
theorem fap36_1 (b o : Nat) : fieldAddrV Try.prog 36 (.ptr b o) 1 = some (.ptr b (o + 1)) := fa_ptr _ 36 _ tk36 b o 1 1 28 _ rfl ty28 (by decide)
theorem ldp40 (H : Heap) (b o : Nat) : loadV Try.prog H 40 (.ptr b o) = (hget H b).bind fun k => partL { size := 3, bytes := 56, agg := true, k := .struct [(0, 4), (1, 34), (2, 34)], zero := some [.bool false, .slice none 0 0, .slice none 0 0] } k o := load_ptr _ H 40 _ ty40 b o
theorem pl40 (l : List AV) (o : Nat) (h : o + 3 ≤ l.length) : partL { size := 3, bytes := 56, agg := true, k := .struct [(0, 4), (1, 34), (2, 34)], zero := some [.bool false, .slice none 0 0, .slice none 0 0] } l o = some (.agg ((l.drop o).take 3)) := by rw [partL_agg _ _ _ rfl, if_pos h]
theorem fap40_0 (b o : Nat) : fieldAddrV Try.prog 40 (.ptr b o) 0 = some (.ptr b (o)) := fa_ptr _ 40 _ tk40 b o 0 0 4 _ rfl ty4 (by decide)
theorem fap40_1 (b o : Nat) : fieldAddrV Try.prog 40 (.ptr b o) 1 = some (.ptr b (o + 1)) := fa_ptr _ 40 _ tk40 b o 1 1 34 _ rfl ty34 (by decide)
theorem ldp46 (H : Heap) (b o : Nat) : loadV Try.prog H 46 (.ptr b o) = (hget H b).bind fun k => partL { size := 8, bytes := 64, agg := true, k := .struct [(0, 3), (1, 3), (2, 3), (3, 3), (4, 3), (5, 3), (6, 3), (7, 4)], zero := some [.int .i64 0, .int .i64 0, .int .i64 0, .int .i64 0, .int .i64 0, .int .i64 0, .int .i64 0, .bool false] } k o := load_ptr _ H 46 _ ty46 b o
theorem pl46 (l : List AV) (o : Nat) (h : o + 8 ≤ l.length) : partL { size := 8, bytes := 64, agg := true, k := .struct [(0, 3), (1, 3), (2, 3), (3, 3), (4, 3), (5, 3), (6, 3), (7, 4)], zero := some [.int .i64 0, .int .i64 0, .int .i64 0, .int .i64 0, .int .i64 0, .int .i64 0, .int .i64 0, .bool false] } l o = some (.agg ((l.drop o).take 8)) := by rw [partL_agg _ _ _ rfl, if_pos h]
theorem zr46 : (tyOf Try.prog 46).bind (fun ty => ty.zero) = some [.int .i64 0, .int .i64 0, .int .i64 0, .int .i64 0, .int .i64 0, .int .i64 0, .int .i64 0, .bool false] := by rw [ty46]; rfl
theorem fap46_0 (b o : Nat) : fieldAddrV Try.prog 46 (.ptr b o) 0 = some (.ptr b (o)) := fa_ptr _ 46 _ tk46 b o 0 0 3 _ rfl ty3 (by decide)
theorem fap46_1 (b o : Nat) : fieldAddrV Try.prog 46 (.ptr b o) 1 = some (.ptr b (o + 1)) := fa_ptr _ 46 _ tk46 b o 1 1 3 _ rfl ty3 (by decide)
theorem fap46_2 (b o : Nat) : fieldAddrV Try.prog 46 (.ptr b o) 2 = some (.ptr b (o + 2)) := fa_ptr _ 46 _ tk46 b o 2 2 3 _ rfl ty3 (by decide)
theorem fap46_3 (b o : Nat) : fieldAddrV Try.prog 46 (.ptr b o) 3 = some (.ptr b (o + 3)) := fa_ptr _ 46 _ tk46 b o 3 3 3 _ rfl ty3 (by decide)
theorem fap46_4 (b o : Nat) : fieldAddrV Try.prog 46 (.ptr b o) 4 = some (.ptr b (o + 4)) := fa_ptr _ 46 _ tk46 b o 4 4 3 _ rfl ty3 (by decide)
theorem fap46_5 (b o : Nat) : fieldAddrV Try.prog 46 (.ptr b o) 5 = some (.ptr b (o + 5)) := fa_ptr _ 46 _ tk46 b o 5 5 3 _ rfl ty3 (by decide)
theorem fap46_6 (b o : Nat) : fieldAddrV Try.prog 46 (.ptr b o) 6 = some (.ptr b (o + 6)) := fa_ptr _ 46 _ tk46 b o 6 6 3 _ rfl ty3 (by decide)
theorem fap46_7 (b o : Nat) : fieldAddrV Try.prog 46 (.ptr b o) 7 = some (.ptr b (o + 7)) := fa_ptr _ 46 _ tk46 b o 7 7 4 _ rfl ty4 (by decide)
theorem ias47 (n : Nat) (l : List AV) (k : IntKind) (i : Int) (h0 : 0 ≤ i) (h1 : i < n) : indexAddrV Try.prog 47 (.sl n l) (.v (.int k i)) = some (.ele l (i.toNat * 10)) := by rw [ia_sl _ 47 51 _ tk47 ty51, if_pos ⟨h0, h1⟩]
theorem iao47 (z b o n : Nat) (k : IntKind) (i : Int) (h0 : 0 ≤ i) (h1 : i < n) : indexAddrV Try.prog 47 (.own z b o n) (.v (.int k i)) = some (.ptr b (o + i.toNat * 10)) := by rw [ia_own _ 47 51 _ tk47 ty51, if_pos ⟨h0, h1⟩]
theorem lns47 (n : Nat) (l : List AV) : lenV (tyOf Try.prog 47) (.sl n l) = some (.v (.int .i64 n)) := by rw [ty47]; exact len_sl _ 51 _ _ rfl
theorem lno47 (z b o n : Nat) : lenV (tyOf Try.prog 47) (.own z b o n) = some (.v (.int .i64 n)) := by rw [ty47]; exact len_own _ 51 _ _ _ _ rfl
theorem ldp51 (H : Heap) (b o : Nat) : loadV Try.prog H 51 (.ptr b o) = (hget H b).bind fun k => partL { size := 10, bytes := 80, agg := true, k := .struct [(0, 3), (1, 3), (2, 3), (3, 3), (4, 3), (5, 3), (6, 3), (7, 3), (8, 3), (9, 3)], zero := some [.int .i64 0, .int .i64 0, .int .i64 0, .int .i64 0, .int .i64 0, .int .i64 0, .int .i64 0, .int .i64 0, .int .i64 0, .int .i64 0] } k o := load_ptr _ H 51 _ ty51 b o
theorem lde51 (H : Heap) (l : List AV) (o : Nat) : loadV Try.prog H 51 (.ele l o) = partL { size := 10, bytes := 80, agg := true, k := .struct [(0, 3), (1, 3), (2, 3), (3, 3), (4, 3), (5, 3), (6, 3), (7, 3), (8, 3), (9, 3)], zero := some [.int .i64 0, .int .i64 0, .int .i64 0, .int .i64 0, .int .i64 0, .int .i64 0, .int .i64 0, .int .i64 0, .int .i64 0, .int .i64 0] } l o := load_ele _ H 51 _ ty51 l o
theorem pl51 (l : List AV) (o : Nat) (h : o + 10 ≤ l.length) : partL { size := 10, bytes := 80, agg := true, k := .struct [(0, 3), (1, 3), (2, 3), (3, 3), (4, 3), (5, 3), (6, 3), (7, 3), (8, 3), (9, 3)], zero := some [.int .i64 0, .int .i64 0, .int .i64 0, .int .i64 0, .int .i64 0, .int .i64 0, .int .i64 0, .int .i64 0, .int .i64 0, .int .i64 0] } l o = some (.agg ((l.drop o).take 10)) := by rw [partL_agg _ _ _ rfl, if_pos h]
theorem fap51_0 (b o : Nat) : fieldAddrV Try.prog 51 (.ptr b o) 0 = some (.ptr b (o)) := fa_ptr _ 51 _ tk51 b o 0 0 3 _ rfl ty3 (by decide)
theorem fap51_1 (b o : Nat) : fieldAddrV Try.prog 51 (.ptr b o) 1 = some (.ptr b (o + 1)) := fa_ptr _ 51 _ tk51 b o 1 1 3 _ rfl ty3 (by decide)
theorem fap51_2 (b o : Nat) : fieldAddrV Try.prog 51 (.ptr b o) 2 = some (.ptr b (o + 2)) := fa_ptr _ 51 _ tk51 b o 2 2 3 _ rfl ty3 (by decide)
theorem fap51_3 (b o : Nat) : fieldAddrV Try.prog 51 (.ptr b o) 3 = some (.ptr b (o + 3)) := fa_ptr _ 51 _ tk51 b o 3 3 3 _ rfl ty3 (by decide)
theorem fap51_4 (b o : Nat) : fieldAddrV Try.prog 51 (.ptr b o) 4 = some (.ptr b (o + 4)) := fa_ptr _ 51 _ tk51 b o 4 4 3 _ rfl ty3 (by decide)
theorem fap51_5 (b o : Nat) : fieldAddrV Try.prog 51 (.ptr b o) 5 = some (.ptr b (o + 5)) := fa_ptr _ 51 _ tk51 b o 5 5 3 _ rfl ty3 (by decide)
theorem fae51_5 (l : List AV) (o : Nat) : fieldAddrV Try.prog 51 (.ele l o) 5 = some (.ele l (o + 5)) := fa_ele _ 51 _ tk51 l o 5 5 3 _ rfl ty3 (by decide)
theorem fap51_6 (b o : Nat) : fieldAddrV Try.prog 51 (.ptr b o) 6 = some (.ptr b (o + 6)) := fa_ptr _ 51 _ tk51 b o 6 6 3 _ rfl ty3 (by decide)
theorem fap51_7 (b o : Nat) : fieldAddrV Try.prog 51 (.ptr b o) 7 = some (.ptr b (o + 7)) := fa_ptr _ 51 _ tk51 b o 7 7 3 _ rfl ty3 (by decide)
theorem fap51_8 (b o : Nat) : fieldAddrV Try.prog 51 (.ptr b o) 8 = some (.ptr b (o + 8)) := fa_ptr _ 51 _ tk51 b o 8 8 3 _ rfl ty3 (by decide)
theorem fap51_9 (b o : Nat) : fieldAddrV Try.prog 51 (.ptr b o) 9 = some (.ptr b (o + 9)) := fa_ptr _ 51 _ tk51 b o 9 9 3 _ rfl ty3 (by decide)
theorem ldp60 (H : Heap) (b o : Nat) : loadV Try.prog H 60 (.ptr b o) = (hget H b).bind fun k => k[o]? := by rw [load_ptr _ H 60 _ ty60 b o]; rfl
theorem ias60 (n : Nat) (l : List AV) (k : IntKind) (i : Int) (h0 : 0 ≤ i) (h1 : i < n) : indexAddrV Try.prog 60 (.sl n l) (.v (.int k i)) = some (.ele l (i.toNat * 3)) := by rw [ia_sl _ 60 69 _ tk60 ty69, if_pos ⟨h0, h1⟩]
theorem lns60 (n : Nat) (l : List AV) : lenV (tyOf Try.prog 60) (.sl n l) = some (.v (.int .i64 n)) := by rw [ty60]; exact len_sl _ 69 _ _ rfl
theorem ldp62 (H : Heap) (b o : Nat) : loadV Try.prog H 62 (.ptr b o) = (hget H b).bind fun k => partL { size := 4, bytes := 48, agg := true, k := .struct [(0, 3), (1, 3), (2, 3), (3, 60)], zero := some [.int .i64 0, .int .i64 0, .int .i64 0, .slice none 0 0] } k o := load_ptr _ H 62 _ ty62 b o
theorem pl62 (l : List AV) (o : Nat) (h : o + 4 ≤ l.length) : partL { size := 4, bytes := 48, agg := true, k := .struct [(0, 3), (1, 3), (2, 3), (3, 60)], zero := some [.int .i64 0, .int .i64 0, .int .i64 0, .slice none 0 0] } l o = some (.agg ((l.drop o).take 4)) := by rw [partL_agg _ _ _ rfl, if_pos h]
theorem fap62_0 (b o : Nat) : fieldAddrV Try.prog 62 (.ptr b o) 0 = some (.ptr b (o)) := fa_ptr _ 62 _ tk62 b o 0 0 3 _ rfl ty3 (by decide)
theorem fap62_1 (b o : Nat) : fieldAddrV Try.prog 62 (.ptr b o) 1 = some (.ptr b (o + 1)) := fa_ptr _ 62 _ tk62 b o 1 1 3 _ rfl ty3 (by decide)
theorem fap62_2 (b o : Nat) : fieldAddrV Try.prog 62 (.ptr b o) 2 = some (.ptr b (o + 2)) := fa_ptr _ 62 _ tk62 b o 2 2 3 _ rfl ty3 (by decide)
theorem fap62_3 (b o : Nat) : fieldAddrV Try.prog 62 (.ptr b o) 3 = some (.ptr b (o + 3)) := fa_ptr _ 62 _ tk62 b o 3 3 60 _ rfl ty60 (by decide)
theorem ias65 (n : Nat) (l : List AV) (k : IntKind) (i : Int) (h0 : 0 ≤ i) (h1 : i < n) : indexAddrV Try.prog 65 (.sl n l) (.v (.int k i)) = some (.ele l (i.toNat)) := by rw [ia_sl _ 65 2 _ tk65 ty2, if_pos ⟨h0, h1⟩]; rw [Nat.mul_one]
theorem iao65 (z b o n : Nat) (k : IntKind) (i : Int) (h0 : 0 ≤ i) (h1 : i < n) : indexAddrV Try.prog 65 (.own z b o n) (.v (.int k i)) = some (.ptr b (o + i.toNat)) := by rw [ia_own _ 65 2 _ tk65 ty2, if_pos ⟨h0, h1⟩]; rw [Nat.mul_one]
theorem lde69 (H : Heap) (l : List AV) (o : Nat) : loadV Try.prog H 69 (.ele l o) = partL { size := 3, bytes := 24, agg := true, k := .struct [(0, 3), (1, 3), (2, 2)], zero := some [.int .i64 0, .int .i64 0, .int .i64 0] } l o := load_ele _ H 69 _ ty69 l o
theorem pl69 (l : List AV) (o : Nat) (h : o + 3 ≤ l.length) : partL { size := 3, bytes := 24, agg := true, k := .struct [(0, 3), (1, 3), (2, 2)], zero := some [.int .i64 0, .int .i64 0, .int .i64 0] } l o = some (.agg ((l.drop o).take 3)) := by rw [partL_agg _ _ _ rfl, if_pos h]
theorem zr69 : (tyOf Try.prog 69).bind (fun ty => ty.zero) = some [.int .i64 0, .int .i64 0, .int .i64 0] := by rw [ty69]; rfl
theorem fap69_0 (b o : Nat) : fieldAddrV Try.prog 69 (.ptr b o) 0 = some (.ptr b (o)) := fa_ptr _ 69 _ tk69 b o 0 0 3 _ rfl ty3 (by decide)
theorem fae69_0 (l : List AV) (o : Nat) : fieldAddrV Try.prog 69 (.ele l o) 0 = some (.ele l (o)) := fa_ele _ 69 _ tk69 l o 0 0 3 _ rfl ty3 (by decide)
theorem fap69_1 (b o : Nat) : fieldAddrV Try.prog 69 (.ptr b o) 1 = some (.ptr b (o + 1)) := fa_ptr _ 69 _ tk69 b o 1 1 3 _ rfl ty3 (by decide)
theorem fae69_1 (l : List AV) (o : Nat) : fieldAddrV Try.prog 69 (.ele l o) 1 = some (.ele l (o + 1)) := fa_ele _ 69 _ tk69 l o 1 1 3 _ rfl ty3 (by decide)
theorem fap69_2 (b o : Nat) : fieldAddrV Try.prog 69 (.ptr b o) 2 = some (.ptr b (o + 2)) := fa_ptr _ 69 _ tk69 b o 2 2 2 _ rfl ty2 (by decide)
theorem fae69_2 (l : List AV) (o : Nat) : fieldAddrV Try.prog 69 (.ele l o) 2 = some (.ele l (o + 2)) := fa_ele _ 69 _ tk69 l o 2 2 2 _ rfl ty2 (by decide)
theorem ias81 (n : Nat) (l : List AV) (k : IntKind) (i : Int) (h0 : 0 ≤ i) (h1 : i < n) : indexAddrV Try.prog 81 (.sl n l) (.v (.int k i)) = some (.ele l (i.toNat * 2)) := by rw [ia_sl _ 81 85 _ tk81 ty85, if_pos ⟨h0, h1⟩]
theorem iao81 (z b o n : Nat) (k : IntKind) (i : Int) (h0 : 0 ≤ i) (h1 : i < n) : indexAddrV Try.prog 81 (.own z b o n) (.v (.int k i)) = some (.ptr b (o + i.toNat * 2)) := by rw [ia_own _ 81 85 _ tk81 ty85, if_pos ⟨h0, h1⟩]
theorem lno81 (z b o n : Nat) : lenV (tyOf Try.prog 81) (.own z b o n) = some (.v (.int .i64 n)) := by rw [ty81]; exact len_own _ 85 _ _ _ _ rfl
theorem ldp85 (H : Heap) (b o : Nat) : loadV Try.prog H 85 (.ptr b o) = (hget H b).bind fun k => partL { size := 2, bytes := 16, agg := true, k := .struct [(0, 3), (1, 4)], zero := some [.int .i64 0, .bool false] } k o := load_ptr _ H 85 _ ty85 b o
theorem lde85 (H : Heap) (l : List AV) (o : Nat) : loadV Try.prog H 85 (.ele l o) = partL { size := 2, bytes := 16, agg := true, k := .struct [(0, 3), (1, 4)], zero := some [.int .i64 0, .bool false] } l o := load_ele _ H 85 _ ty85 l o
theorem pl85 (l : List AV) (o : Nat) (h : o + 2 ≤ l.length) : partL { size := 2, bytes := 16, agg := true, k := .struct [(0, 3), (1, 4)], zero := some [.int .i64 0, .bool false] } l o = some (.agg ((l.drop o).take 2)) := by rw [partL_agg _ _ _ rfl, if_pos h]
theorem fap85_0 (b o : Nat) : fieldAddrV Try.prog 85 (.ptr b o) 0 = some (.ptr b (o)) := fa_ptr _ 85 _ tk85 b o 0 0 3 _ rfl ty3 (by decide)
theorem fap85_1 (b o : Nat) : fieldAddrV Try.prog 85 (.ptr b o) 1 = some (.ptr b (o + 1)) := fa_ptr _ 85 _ tk85 b o 1 1 4 _ rfl ty4 (by decide)
theorem ldp107 (H : Heap) (b o : Nat) : loadV Try.prog H 107 (.ptr b o) = (hget H b).bind fun k => k[o]? := by rw [load_ptr _ H 107 _ ty107 b o]; rfl
theorem ldp112 (H : Heap) (b o : Nat) : loadV Try.prog H 112 (.ptr b o) = (hget H b).bind fun k => partL { size := 2, bytes := 16, agg := true, k := .struct [(0, 2), (1, 107)], zero := some [.int .i64 0, .int .u64 0] } k o := load_ptr _ H 112 _ ty112 b o
theorem zr112 : (tyOf Try.prog 112).bind (fun ty => ty.zero) = some [.int .i64 0, .int .u64 0] := by rw [ty112]; rfl
theorem fap112_0 (b o : Nat) : fieldAddrV Try.prog 112 (.ptr b o) 0 = some (.ptr b (o)) := fa_ptr _ 112 _ tk112 b o 0 0 2 _ rfl ty2 (by decide)
theorem fap112_1 (b o : Nat) : fieldAddrV Try.prog 112 (.ptr b o) 1 = some (.ptr b (o + 1)) := fa_ptr _ 112 _ tk112 b o 1 1 107 _ rfl ty107 (by decide)
attribute [go_sem] ldp2 lde2 ldp3 lde3 ldp4 lde4 beq4 bne4 lde5 ias22 lns22 ias24 lns24 ldp28 ias28 iao28 lns28 lno28 lnn28 lde30 pl30 fap30_1 fap30_2 ldp31 lde31 pl31 zr31 iao32 lno32 lnn32 ias33 iao33 ldp34 ias34 iao34 lns34 lno34 ldp36 pl36 zr36 fap36_0 fap36_1 ldp40 pl40 fap40_0 fap40_1 ldp46 pl46 zr46 fap46_0 fap46_1 fap46_2 fap46_3 fap46_4 fap46_5 fap46_6 fap46_7 ias47 iao47 lns47 lno47 ldp51 lde51 pl51 fap51_0 fap51_1 fap51_2 fap51_3 fap51_4 fap51_5 fae51_5 fap51_6 fap51_7 fap51_8 fap51_9 ldp60 ias60 lns60 ldp62 pl62 fap62_0 fap62_1 fap62_2 fap62_3 ias65 iao65 lde69 pl69 zr69 fap69_0 fae69_0 fap69_1 fae69_1 fap69_2 fae69_2 ias81 iao81 lno81 ldp85 lde85 pl85 fap85_0 fap85_1 ldp107 ldp112 zr112 fap112_0 fap112_1
end Go.Proofs.Ytdmeioppkannlaa
end
section
set_option linter.unusedVariables false
namespace Go.Proofs.Ytdmeioppkannlaa
open Go Go.Am
abbrev u6 (n : Int) : AV := .v (.int .u64 n)
/-- The wide integer with a value. -/
abbrev wv (x : Int) : AV := .agg [AV.i (x / 18446744073709551616), u6 (x % 18446744073709551616)]
def Fw (x : Int) : Prop := -170141183460469231731687303715884105728 ≤ x ∧ x ≤ 170141183460469231731687303715884105727
instance (x : Int) : Decidable (Fw x) := inferInstanceAs (Decidable (_ ∧ _))
def fS (n : Int) : Int × Bool := if Fw n then (n, true) else (0, false)
theorem fS_y {n : Int} (h : Fw n) : fS n = (n, true) := by rw [fS, if_pos h]
theorem fS_n {n : Int} (h : ¬ Fw n) : fS n = (0, false) := by rw [fS, if_neg h]
def ab (n : Int) : Int := if n < 0 then -n else n
theorem ab_neg {n : Int} (h : n < 0) : ab n = -n := by rw [ab, if_pos h]
theorem ab_pos {n : Int} (h : ¬ n < 0) : ab n = n := by rw [ab, if_neg h]
theorem ab_rng (n : Int) : 0 ≤ ab n := by unfold ab; split <;> omega
theorem mul_pos' {a b : Int} (ha : 0 ≤ a) (hb : 0 ≤ b) : 0 ≤ a * b := Int.mul_nonneg ha hb
theorem mul_le' {a b c d : Int} (ha : 0 ≤ a) (hc : a ≤ c) (hb : 0 ≤ b) (hd : b ≤ d) : a * b ≤ c * d := Int.mul_le_mul hc hd hb (by omega)
/-- A product, by the sizes and the signs of its factors. -/
theorem ab_mul (a b : Int) : (if (decide (a < 0) != decide (b < 0)) = true then -(ab a * ab b) else ab a * ab b) = a * b := by
  unfold ab
  by_cases h1 : a < 0 <;> by_cases h2 : b < 0 <;> simp [h1, h2] <;> grind
def cmpS (x y : Int) : Int := if x < y then -1 else if x = y then 0 else 1
def ftS (x : Int) : Int × Bool := if -9223372036854775808 ≤ x ∧ x ≤ 9223372036854775807 then (x, true) else (0, false)
def sg (neg : Bool) (m : Int) : Int := if neg = true then -m else m
theorem sg_t {neg : Bool} (h : neg = true) (m : Int) : sg neg m = -m := by rw [sg, if_pos h]
theorem sg_f {neg : Bool} (h : neg = false) (m : Int) : sg neg m = m := by rw [sg, h]; rfl
theorem tupW {a b n : Int} {p q : Bool} (h1 : a = n / 18446744073709551616) (h2 : b = n % 18446744073709551616) (hp : p = q) : AV.tup [AV.agg [AV.i a, u6 b], .v (.bool p)] = AV.tup [wv n, .v (.bool q)] := by rw [h1, h2, hp]
theorem tup2 {a c : Int} {p q : Bool} (h1 : a = c) (hp : p = q) : AV.tup [u6 a, .v (.bool p)] = AV.tup [u6 c, .v (.bool q)] := by rw [h1, hp]
theorem ab_le {a : Int} (h : -9223372036854775808 ≤ a ∧ a ≤ 9223372036854775807) : ab a ≤ 9223372036854775808 := by unfold ab; split <;> omega
theorem ab_fit {a b : Int} (ha : -9223372036854775808 ≤ a ∧ a ≤ 9223372036854775807) (hb : -9223372036854775808 ≤ b ∧ b ≤ 9223372036854775807) : Fw (a * b) := by
  have h1 := mul_le' (ab_rng a) (ab_le ha) (ab_rng b) (ab_le hb)
  have h2 := mul_pos' (ab_rng a) (ab_rng b)
  have h3 := ab_mul a b
  unfold Fw
  split at h3 <;> omega
/-! ### Operations -/
theorem wrap_u (n : Int) : IntKind.u64.wrap n = n % 18446744073709551616 := by simp [IntKind.wrap, IntKind.bits, IntKind.signed]
theorem cv2_22 (n : Int) : convV Try.prog 2 107 (.v (.int .i64 n)) = some (.v (.int .u64 (n % 18446744073709551616))) := by simp only [convV, ty2, tk107, wrap_u]
theorem cv22_2 (n : Int) : convV Try.prog 107 2 (.v (.int .u64 n)) = some (.v (.int .i64 ((n + 9223372036854775808) % 18446744073709551616 - 9223372036854775808))) := by
  simp only [convV, ty107, tk2]
  rw [IntKind.wrap_i64]
theorem un_xor (n : Int) (h0 : 0 ≤ n) (h1 : n ≤ 18446744073709551615) : unV .xor (.v (.int .u64 n)) = some (.v (.int .u64 (18446744073709551615 - n))) := by
  obtain ⟨m, rfl⟩ : ∃ m : Nat, n = (m : Int) := ⟨n.toNat, by omega⟩
  have e0 : IntKind.u64.max = 18446744073709551615 := rfl
  have es : IntKind.u64.signed = false := rfl
  simp only [unV, intBin, es, e0, Option.map_some, Bool.false_eq_true, if_false]
  congr 4
  have hb : IntKind.u64.bits = 64 := rfl
  rw [hb]
  have h2 : (BitVec.ofInt 64 (18446744073709551615 : Int) ^^^ BitVec.ofInt 64 (m : Int)).toNat = 18446744073709551615 - m := by
    have e1 : BitVec.ofInt 64 (18446744073709551615 : Int) = BitVec.allOnes 64 := by decide
    rw [e1, BitVec.allOnes_xor, BitVec.toNat_not, BitVec.toNat_ofInt]
    omega
  rw [h2, wrap_u]
  omega
theorem eqw (a b c d : Int) : binV Try.prog .eql 112 (.agg [AV.i a, u6 b]) (.agg [AV.i c, u6 d]) = some (.v (.bool (a == c && b == d))) := by
  simp [binV, aggEq, eqOk112, tk112, fieldsEq, scalEq, kOf, ty2, ty107]
  cases (a == c) <;> cases (b == d) <;> rfl
set_option maxRecDepth 20000 in
theorem bld0 : buildV Try.prog 112 [] = some (.agg [AV.i 0, u6 0]) := by simp only [buildV, ty112]; rfl
theorem bld1 (a b : Int) : buildV Try.prog 112 [(0, AV.i a), (1, u6 b)] = some (.agg [AV.i a, u6 b]) := by
  simp only [buildV, ty112, places, ty2, ty107]; rfl
theorem take2 (x y : AV) : List.take 2 [x, y] = [x, y] := rfl
theorem sL2 (x y c d : AV) : setL [x, y] 0 [c, d] = [c, d] := rfl
theorem sL0 (x y c : AV) : setL [x, y] 0 [c] = [c, y] := rfl
theorem sL1 (x y c : AV) : setL [x, y] 1 [c] = [x, c] := rfl
attribute [go_sem] sL2 sL0 sL1 wrap_u cv2_22 cv22_2 un_xor eqw bld0 bld1 take2
end Go.Proofs.Ytdmeioppkannlaa
end
section
set_option linter.unusedVariables false
set_option linter.unusedSimpArgs false
namespace Go.Proofs.Ytdmeioppkannlaa
open Go Go.Am
structure St where
  (tm pl wn sh ls pt rf bf ra ba : Int)
deriving DecidableEq
def inS (n : Int) : Prop := 0 ≤ n ∧ n ≤ 1048576
instance (n : Int) : Decidable (inS n) := by unfold inS; exact inferInstance
def okS (s : St) : Prop := inS s.rf ∧ inS s.bf ∧ inS s.ra ∧ inS s.ba
instance (s : St) : Decidable (okS s) := by unfold okS inS; exact inferInstance
def one (n : Int) : Int := if n = 0 then 1 else n
def nil0 (n m : Int) : Int := if n = 0 then 0 else m
theorem nil0_y {n m : Int} (h : n = 0) : nil0 n m = 0 := if_pos h
theorem nil0_n {n m : Int} (h : ¬ n = 0) : nil0 n m = m := if_neg h
theorem one_y {n : Int} (h : n = 0) : one n = 1 := if_pos h
theorem one_n {n : Int} (h : ¬ n = 0) : one n = n := if_neg h
def rxn (s : St) : Int := nil0 s.bf s.rf * one s.ba - nil0 s.ba s.ra * one s.bf
def rxd (s : St) : Int := one s.bf * one s.ba
theorem one_rng {n : Int} (h : inS n) : 1 ≤ one n ∧ one n ≤ 1048576 := by unfold inS at h; unfold one; split <;> omega
theorem nil0_rng {n m : Int} (h : inS m) : 0 ≤ nil0 n m ∧ nil0 n m ≤ 1048576 := by unfold inS at h; unfold nil0; split <;> omega
theorem mul_rng {a b : Int} (ha : 0 ≤ a ∧ a ≤ 1048576) (hb : 0 ≤ b ∧ b ≤ 1048576) : 0 ≤ a * b ∧ a * b ≤ 1099511627776 :=
  ⟨Int.mul_nonneg ha.1 hb.1, by have := Int.mul_le_mul ha.2 hb.2 hb.1 (by omega : (0 : Int) ≤ 1048576); omega⟩
theorem rxd_rng {s : St} (h : okS s) : 1 ≤ rxd s ∧ rxd s ≤ 1099511627776 := by
  obtain ⟨h1, h2, h3, h4⟩ := h
  have a := one_rng h2
  have b := one_rng h4
  have c := mul_rng (a := one s.bf) (b := one s.ba) (by omega) (by omega)
  have d : 0 < one s.bf * one s.ba := Int.mul_pos (by omega) (by omega)
  unfold rxd
  omega
theorem rxn_rng {s : St} (h : okS s) : -1099511627776 ≤ rxn s ∧ rxn s ≤ 1099511627776 := by
  obtain ⟨h1, h2, h3, h4⟩ := h
  have a := one_rng h2
  have b := one_rng h4
  have c := mul_rng (a := nil0 s.bf s.rf) (b := one s.ba) (nil0_rng h1) (by omega)
  have d := mul_rng (a := nil0 s.ba s.ra) (b := one s.bf) (nil0_rng h3) (by omega)
  unfold rxn
  omega
def crS (a b : St) : Int := if okS a ∧ okS b then cmpS (rxn a * rxd b) (rxn b * rxd a) else 0
theorem cmpS_anti (x y : Int) : cmpS y x = -cmpS x y := by
  unfold cmpS
  split <;> split <;> first | omega | (split <;> omega)
theorem crS_anti (a b : St) : crS b a = -crS a b := by
  unfold crS
  by_cases h : okS a ∧ okS b
  · rw [if_pos h, if_pos ⟨h.2, h.1⟩, cmpS_anti]
  · rw [if_neg h, if_neg fun h1 => h ⟨h1.2, h1.1⟩]; rfl
def bf9 (p : Prop) [Decidable p] : Int := if p then -1 else 1
def cmS (a b : St) : Int :=
  if a.pt ≠ b.pt then bf9 (a.pt > b.pt) else if a.wn ≠ b.wn then bf9 (a.wn > b.wn) else if crS a b ≠ 0 then -crS a b else if a.tm ≠ b.tm then bf9 (a.tm < b.tm) else 0
theorem cmS_anti (a b : St) : cmS b a = -cmS a b := by
  have h := crS_anti a b
  unfold cmS bf9
  by_cases h1 : a.pt = b.pt
  · by_cases h2 : a.wn = b.wn
    · by_cases h3 : crS a b = 0
      · have h4 : crS b a = 0 := by omega
        by_cases h5 : a.tm = b.tm
        · simp [h1, h2, h3, h4, h5]
        · have : ¬ b.tm = a.tm := fun e => h5 e.symm
          simp only [h1, h2, h3, h4, ne_eq, not_true_eq_false, if_false, h5, this, not_false_eq_true, if_true]
          split <;> split <;> omega
      · have h4 : ¬ crS b a = 0 := by omega
        simp only [h1, h2, h3, h4, ne_eq, not_true_eq_false, if_false, not_false_eq_true, if_true]
        omega
    · have : ¬ b.wn = a.wn := fun e => h2 e.symm
      simp only [h1, h2, this, ne_eq, not_true_eq_false, if_false, not_false_eq_true, if_true]
      split <;> split <;> omega
  · have : ¬ b.pt = a.pt := fun e => h1 e.symm
    simp only [h1, this, ne_eq, not_false_eq_true, if_true]
    split <;> split <;> omega
/-- Two fractions in order, a third behind them. -/
theorem fr_le {a b c d e f : Int} (hd : 0 < d) (hb : 0 ≤ b) (hf : 0 ≤ f) (h1 : a * d ≤ c * b) (h2 : c * f ≤ e * d) : a * f ≤ e * b := by
  have k1 := Int.mul_le_mul_of_nonneg_right h1 hf
  have k2 := Int.mul_le_mul_of_nonneg_right h2 hb
  have k3 : a * f * d ≤ e * b * d := by
    have e1 : a * f * d = a * d * f := by rw [Int.mul_assoc, Int.mul_comm f d, ← Int.mul_assoc]
    have e2 : e * b * d = e * d * b := by rw [Int.mul_assoc, Int.mul_comm b d, ← Int.mul_assoc]
    have e3 : c * b * f = c * f * b := by rw [Int.mul_assoc, Int.mul_comm b f, ← Int.mul_assoc]
    omega
  exact Int.le_of_mul_le_mul_right k3 hd
theorem fr_lt {a b c d e f : Int} (hd : 0 < d) (hb : 0 < b) (hf : 0 ≤ f) (h1 : a * d ≤ c * b) (h2 : c * f < e * d) : a * f < e * b := by
  have k1 := Int.mul_le_mul_of_nonneg_right h1 hf
  have k2 := Int.mul_lt_mul_of_pos_right h2 hb
  have k3 : a * f * d < e * b * d := by
    have e1 : a * f * d = a * d * f := by rw [Int.mul_assoc, Int.mul_comm f d, ← Int.mul_assoc]
    have e2 : e * b * d = e * d * b := by rw [Int.mul_assoc, Int.mul_comm b d, ← Int.mul_assoc]
    have e3 : c * b * f = c * f * b := by rw [Int.mul_assoc, Int.mul_comm b f, ← Int.mul_assoc]
    omega
  exact Int.lt_of_mul_lt_mul_right k3 (Int.le_of_lt hd)
theorem fr_lt' {a b c d e f : Int} (hd : 0 < d) (hb : 0 ≤ b) (hf : 0 < f) (h1 : a * d < c * b) (h2 : c * f ≤ e * d) : a * f < e * b := by
  have k1 := Int.mul_lt_mul_of_pos_right h1 hf
  have k2 := Int.mul_le_mul_of_nonneg_right h2 hb
  have k3 : a * f * d < e * b * d := by
    have e1 : a * f * d = a * d * f := by rw [Int.mul_assoc, Int.mul_comm f d, ← Int.mul_assoc]
    have e2 : e * b * d = e * d * b := by rw [Int.mul_assoc, Int.mul_comm b d, ← Int.mul_assoc]
    have e3 : c * b * f = c * f * b := by rw [Int.mul_assoc, Int.mul_comm b f, ← Int.mul_assoc]
    omega
  exact Int.lt_of_mul_lt_mul_right k3 (Int.le_of_lt hd)
theorem cmpS_neg {x y : Int} : cmpS x y ≤ 0 ↔ x ≤ y := by
  unfold cmpS
  split
  · constructor <;> intro <;> omega
  · split <;> constructor <;> intro <;> omega
theorem cmpS_lt {x y : Int} : cmpS x y < 0 ↔ x < y := by
  unfold cmpS
  split
  · constructor <;> intro <;> omega
  · split <;> constructor <;> intro <;> omega
theorem crS_ok {a b : St} (ha : okS a) (hb : okS b) : crS a b = cmpS (rxn a * rxd b) (rxn b * rxd a) := if_pos ⟨ha, hb⟩
theorem crS_le {a b c : St} (ha : okS a) (hb : okS b) (hc : okS c) (h1 : crS a b ≤ 0) (h2 : crS b c ≤ 0) : crS a c ≤ 0 := by
  rw [crS_ok ha hb, cmpS_neg] at h1
  rw [crS_ok hb hc, cmpS_neg] at h2
  rw [crS_ok ha hc, cmpS_neg]
  have := rxd_rng ha; have := rxd_rng hb; have := rxd_rng hc
  exact fr_le (d := rxd b) (by omega) (by omega) (by omega) h1 h2
theorem crS_lt {a b c : St} (ha : okS a) (hb : okS b) (hc : okS c) (h1 : crS a b ≤ 0) (h2 : crS b c < 0) : crS a c < 0 := by
  rw [crS_ok ha hb, cmpS_neg] at h1
  rw [crS_ok hb hc, cmpS_lt] at h2
  rw [crS_ok ha hc, cmpS_lt]
  have := rxd_rng ha; have := rxd_rng hb; have := rxd_rng hc
  exact fr_lt (d := rxd b) (by omega) (by omega) (by omega) h1 h2
theorem crS_lt' {a b c : St} (ha : okS a) (hb : okS b) (hc : okS c) (h1 : crS a b < 0) (h2 : crS b c ≤ 0) : crS a c < 0 := by
  rw [crS_ok ha hb, cmpS_lt] at h1
  rw [crS_ok hb hc, cmpS_neg] at h2
  rw [crS_ok ha hc, cmpS_lt]
  have := rxd_rng ha; have := rxd_rng hb; have := rxd_rng hc
  exact fr_lt' (d := rxd b) (by omega) (by omega) (by omega) h1 h2
/-- The order of places, spelled out. -/
theorem cmS_le (a b : St) : cmS a b ≤ 0 ↔ a.pt > b.pt ∨ (a.pt = b.pt ∧ (a.wn > b.wn ∨ (a.wn = b.wn ∧ (crS b a < 0 ∨ (crS b a ≤ 0 ∧ crS a b ≤ 0 ∧ a.tm ≤ b.tm))))) := by
  have h := crS_anti a b
  unfold cmS bf9
  by_cases h1 : a.pt = b.pt
  · by_cases h2 : a.wn = b.wn
    · by_cases h3 : crS a b = 0
      · by_cases h5 : a.tm = b.tm
        · simp only [h1, h2, h3, h5, ne_eq, not_true_eq_false, if_false, true_and, false_and, or_false]
          constructor <;> intro <;> omega
        · simp only [h1, h2, h3, ne_eq, not_true_eq_false, if_false, h5, not_false_eq_true, if_true, true_and, false_and, or_false]
          split <;> constructor <;> intro <;> omega
      · simp only [h1, h2, h3, ne_eq, not_true_eq_false, if_false, not_false_eq_true, if_true, true_and, false_and, or_false]
        constructor <;> intro <;> omega
    · simp only [h1, h2, ne_eq, not_true_eq_false, if_false, not_false_eq_true, if_true, true_and, false_and, or_false]
      split <;> constructor <;> intro <;> omega
  · simp only [h1, ne_eq, not_false_eq_true, if_true, true_and, false_and, or_false]
    split <;> constructor <;> intro <;> omega
theorem cmS_trans {a b c : St} (ha : okS a) (hb : okS b) (hc : okS c) (h1 : cmS a b ≤ 0) (h2 : cmS b c ≤ 0) : cmS a c ≤ 0 := by
  rw [cmS_le] at h1 h2 ⊢
  have k1 := crS_lt (a := c) (b := b) (c := a) hc hb ha
  have k2 := crS_lt' (a := c) (b := b) (c := a) hc hb ha
  have k3 := crS_le (a := c) (b := b) (c := a) hc hb ha
  have k4 := crS_le (a := a) (b := b) (c := c) ha hb hc
  rcases h1 with h1 | ⟨e1, h1⟩
  · rcases h2 with h2 | ⟨e2, h2⟩ <;> exact .inl (by omega)
  · rcases h2 with h2 | ⟨e2, h2⟩
    · exact .inl (by omega)
    · refine .inr ⟨by omega, ?_⟩
      rcases h1 with h1 | ⟨f1, h1⟩
      · rcases h2 with h2 | ⟨f2, h2⟩ <;> exact .inl (by omega)
      · rcases h2 with h2 | ⟨f2, h2⟩
        · exact .inl (by omega)
        · refine .inr ⟨by omega, ?_⟩
          rcases h1 with h1 | ⟨g1, g2, g3⟩
          · rcases h2 with h2 | ⟨h2, _, _⟩
            · exact .inl (k1 (by omega) h1)
            · exact .inl (k1 h2 h1)
          · rcases h2 with h2 | ⟨h2, h3, h4⟩
            · exact .inl (k2 h2 g1)
            · exact .inr ⟨k3 h2 g1, k4 g2 h3, by omega⟩
/-! ### What the walks meet -/
def rtN (z : St) : Int := if okS z then rxn z else 0
def rtD (z : St) : Int := if okS z then rxd z else 1
theorem rtN_y {z : St} (h : okS z) : rtN z = rxn z := if_pos h
theorem rtD_y {z : St} (h : okS z) : rtD z = rxd z := if_pos h
theorem rtN_n {z : St} (h : ¬ okS z) : rtN z = 0 := if_neg h
theorem rtD_n {z : St} (h : ¬ okS z) : rtD z = 1 := if_neg h
theorem rt_rng (z : St) : (-1099511627776 ≤ rtN z ∧ rtN z ≤ 1099511627776) ∧ 1 ≤ rtD z ∧ rtD z ≤ 1099511627776 := by
  by_cases h : okS z
  · rw [rtN_y h, rtD_y h]; exact ⟨rxn_rng h, rxd_rng h⟩
  · rw [rtN_n h, rtD_n h]; omega
theorem prod_rng {z : St} (h : okS z) : (0 ≤ nil0 z.bf z.rf * one z.ba ∧ nil0 z.bf z.rf * one z.ba ≤ 1099511627776) ∧ (0 ≤ nil0 z.ba z.ra * one z.bf ∧ nil0 z.ba z.ra * one z.bf ≤ 1099511627776) ∧ 1 ≤ one z.bf * one z.ba ∧ one z.bf * one z.ba ≤ 1099511627776 := by
  have hd := rxd_rng h
  obtain ⟨h1, h2, h3, h4⟩ := h
  have a := one_rng h2
  have b := one_rng h4
  exact ⟨mul_rng (nil0_rng h1) (by omega), mul_rng (nil0_rng h3) (by omega), hd⟩
def gt4 (z : St) (j : Nat) : Int := [z.rf, z.bf, z.ra, z.ba].getD j 0
theorem gt4_ok {z : St} (h : ∀ j, j < 4 → inS (gt4 z j)) : okS z := ⟨h 0 (by decide), h 1 (by decide), h 2 (by decide), h 3 (by decide)⟩
theorem gt4_no {z : St} {j : Nat} (hj : j < 4) (h : ¬ inS (gt4 z j)) : ¬ okS z := fun hz => by
  obtain ⟨h1, h2, h3, h4⟩ := hz
  have : j = 0 ∨ j = 1 ∨ j = 2 ∨ j = 3 := by omega
  rcases this with rfl | rfl | rfl | rfl
  · exact h h1
  · exact h h2
  · exact h h3
  · exact h h4
theorem crS_rng (y z : St) : -1 ≤ crS y z ∧ crS y z ≤ 1 := by
  unfold crS cmpS
  split
  · split
    · omega
    · split <;> omega
  · omega
theorem cm_pt {y z : St} (h : ¬ y.pt = z.pt) : cmS y z = if decide (z.pt < y.pt) = true then -1 else 1 := by
  simp only [cmS, bf9, h, ne_eq, not_false_eq_true, if_true, decide_eq_true_eq, gt_iff_lt]
theorem cm_wn {y z : St} (h : y.pt = z.pt) (h1 : ¬ y.wn = z.wn) : cmS y z = if decide (z.wn < y.wn) = true then -1 else 1 := by
  simp only [cmS, bf9, h, h1, ne_eq, not_true_eq_false, if_false, not_false_eq_true, if_true, decide_eq_true_eq, gt_iff_lt]
theorem cm_cr {y z : St} (h : y.pt = z.pt) (h1 : y.wn = z.wn) (h2 : ¬ crS y z = 0) : cmS y z = -crS y z := by
  simp only [cmS, bf9, h, h1, h2, ne_eq, not_true_eq_false, if_false, not_false_eq_true, if_true]
theorem cm_cr0 {y z : St} (h : y.pt = z.pt) (h1 : y.wn = z.wn) (h2 : ¬ crS y z = 0) : cmS y z = 0 - crS y z := by rw [cm_cr h h1 h2]; omega
theorem cm_cr' {y z : St} (h : y.pt = z.pt) (h1 : y.wn = z.wn) (h2 : ¬ crS y z = 0) : cmS y z = if decide (0 < crS y z) = true then -1 else 1 := by
  have := crS_rng y z
  rw [cm_cr h h1 h2]
  simp only [decide_eq_true_eq]
  split <;> omega
theorem cm_tm {y z : St} (h : y.pt = z.pt) (h1 : y.wn = z.wn) (h2 : crS y z = 0) (h3 : ¬ y.tm = z.tm) : cmS y z = if decide (y.tm < z.tm) = true then -1 else 1 := by
  simp only [cmS, bf9, h, h1, h2, h3, ne_eq, not_true_eq_false, if_false, not_false_eq_true, if_true, decide_eq_true_eq]
theorem cm_0 {y z : St} (h : y.pt = z.pt) (h1 : y.wn = z.wn) (h2 : crS y z = 0) (h3 : y.tm = z.tm) : cmS y z = 0 := by
  simp only [cmS, bf9, h, h1, h2, h3, ne_eq, not_true_eq_false, if_false]
/-- A standing in the machine. -/
abbrev stL (z : St) : List AV := [AV.i z.tm, AV.i z.pl, AV.i z.wn, AV.i z.sh, AV.i z.ls, AV.i z.pt, AV.i z.rf, AV.i z.bf, AV.i z.ra, AV.i z.ba]
abbrev stA (z : St) : AV := .agg (stL z)
theorem ix77 (z : St) (i : Nat) (h : i < 4) : indexV Try.prog 120 (.agg [AV.i z.rf, AV.i z.bf, AV.i z.ra, AV.i z.ba]) (AV.i (i : Int)) = some (AV.i (gt4 z i)) := by
  have : i = 0 ∨ i = 1 ∨ i = 2 ∨ i = 3 := by omega
  simp only [indexV, tk120, ty3]
  rcases this with rfl | rfl | rfl | rfl <;> rfl
theorem bld77 (a b c d : Int) : buildV Try.prog 120 [(0, AV.i a), (1, AV.i b), (2, AV.i c), (3, AV.i d)] = some (.agg [AV.i a, AV.i b, AV.i c, AV.i d]) := by kernel_rfl
attribute [go_sem] bld77
end Go.Proofs.Ytdmeioppkannlaa
end
section
set_option linter.unusedVariables false
set_option linter.unusedSimpArgs false
namespace Go.Proofs.Ytdmeioppkannlaa
open Go Go.Am
structure Pl where
  (ho aw hr hb ar ab wi : Int) (vo : Bool)
deriving DecidableEq
instance : Inhabited Pl := ⟨⟨0, 0, 0, 0, 0, 0, 0, false⟩⟩
abbrev plC (p : Pl) : List AV := [AV.i p.ho, AV.i p.aw, AV.i p.hr, AV.i p.hb, AV.i p.ar, AV.i p.ab, AV.i p.wi, .v (.bool p.vo)]
def flatP (l : List Pl) : List AV := (l.map plC).flatten
abbrev plsAV (l : List Pl) : AV := .sl l.length (flatP l)
abbrev gp (l : List Pl) (u : Nat) : Pl := l.getD u default
theorem flatP_len (l : List Pl) : (flatP l).length = l.length * 8 := by
  induction l with
  | nil => rfl
  | cons s l ih => unfold flatP at ih ⊢; rw [List.map_cons, List.flatten_cons, List.length_append, ih]; simp; omega
theorem flatP_get : ∀ (l : List Pl) (u k : Nat), u < l.length → k < 8 → (flatP l)[u * 8 + k]? = (plC (gp l u))[k]?
  | [], u, k, h, _ => by simp at h
  | s :: l, 0, k, _, hk => by
    unfold flatP
    rw [List.map_cons, List.flatten_cons, Nat.zero_mul, Nat.zero_add, List.getElem?_append_left (by simpa using hk)]
    rfl
  | s :: l, u + 1, k, h, hk => by
    have ih := flatP_get l u k (by simpa using h) hk
    unfold flatP at ih ⊢
    rw [List.map_cons, List.flatten_cons, List.getElem?_append_right (by simp; omega)]
    rw [show (u + 1) * 8 + k - (plC s).length = u * 8 + k by simp; omega, ih]
    rfl
theorem cut_of {F : List AV} {C : List AV} {z o : Nat} (hC : C.length = z) (h : ∀ k, k < z → F[o + k]? = C[k]?) : (F.drop o).take z = C := by
  apply List.ext_getElem?
  intro j
  rw [List.getElem?_take, List.getElem?_drop]
  by_cases hj : j < z
  · rw [if_pos hj, h j hj]
  · rw [if_neg hj, List.getElem?_eq_none (by omega)]
/-! ### The first nonzero of a row -/
def ferr (f : Nat → Int) : Nat → Int
  | 0 => 0
  | n + 1 => if ferr f n ≠ 0 then ferr f n else f n
theorem ferr_at {f : Nat → Int} {u : Nat} (h : ferr f u = 0) (hf : f u ≠ 0) : ∀ n, u < n → ferr f n = f u
  | 0, hn => by omega
  | n + 1, hn => by
    unfold ferr
    by_cases hu : u = n
    · subst hu; rw [if_neg (by simp [h])]
    · rw [ferr_at h hf n (by omega), if_pos hf]
theorem ferr_ok {f : Nat → Int} {u : Nat} (h : ferr f u = 0) (hf : f u = 0) : ferr f (u + 1) = 0 := by
  unfold ferr
  rw [if_neg (by simp [h]), hf]
theorem ferr_all {f : Nat → Int} : ∀ {n : Nat}, ferr f n = 0 → ∀ i, i < n → f i = 0
  | 0, _, i, hi => by omega
  | n + 1, h, i, hi => by
    unfold ferr at h
    by_cases h0 : ferr f n ≠ 0
    · rw [if_pos h0] at h; exact absurd h h0
    · rw [if_neg h0] at h
      by_cases hi2 : i = n
      · subst hi2; exact h
      · exact ferr_all (Decidable.not_not.mp h0) i (by omega)
/-- The error of a result of n teams. -/
def plE (n : Int) (p : Pl) : Int :=
  if p.ho < 0 ∨ n ≤ p.ho ∨ p.aw < 0 ∨ n ≤ p.aw ∨ p.ho = p.aw then 1
  else if p.hr < 0 ∨ 2000 < p.hr ∨ p.ar < 0 ∨ 2000 < p.ar ∨ p.hb < 0 ∨ 1000 < p.hb ∨ p.ab < 0 ∨ 1000 < p.ab then 2
  else if p.wi < 0 ∨ 2 < p.wi then 3
  else if p.vo = true ∧ (p.wi ≠ 0 ∨ p.hr ≠ 0 ∨ p.hb ≠ 0 ∨ p.ar ≠ 0 ∨ p.ab ≠ 0) then 11 else 0
def chS (n : Int) (l : List Pl) : Int := if n < 2 ∨ 20 < n then 2 else if 400 < l.length then 9 else ferr (fun i => plE n (gp l i)) l.length
theorem chS_a {n : Int} {l : List Pl} (h : n < 2 ∨ 20 < n) : chS n l = 2 := if_pos h
theorem chS_b {n : Int} {l : List Pl} (h : ¬ (n < 2 ∨ 20 < n)) (h1 : 400 < l.length) : chS n l = 9 := by rw [chS, if_neg h, if_pos h1]
theorem chS_c {n : Int} {l : List Pl} {u : Nat} {e : Int} (h : ¬ (n < 2 ∨ 20 < n)) (h1 : ¬ 400 < l.length) (hu : u < l.length) (hf : ferr (fun i => plE n (gp l i)) u = 0) (he : plE n (gp l u) = e) (h0 : e ≠ 0) : chS n l = e := by
  rw [chS, if_neg h, if_neg h1, ferr_at hf (by rw [he]; exact h0) l.length hu, he]
theorem chS_d {n : Int} {l : List Pl} (h : ¬ (n < 2 ∨ 20 < n)) (h1 : ¬ 400 < l.length) (hf : ferr (fun i => plE n (gp l i)) l.length = 0) : chS n l = 0 := by
  rw [chS, if_neg h, if_neg h1, hf]
theorem plE_1 {n : Int} {p : Pl} (h : p.ho < 0 ∨ n ≤ p.ho ∨ p.aw < 0 ∨ n ≤ p.aw ∨ p.ho = p.aw) : plE n p = 1 := if_pos h
theorem plE_2 {n : Int} {p : Pl} (h : ¬ (p.ho < 0 ∨ n ≤ p.ho ∨ p.aw < 0 ∨ n ≤ p.aw ∨ p.ho = p.aw)) (h1 : p.hr < 0 ∨ 2000 < p.hr ∨ p.ar < 0 ∨ 2000 < p.ar ∨ p.hb < 0 ∨ 1000 < p.hb ∨ p.ab < 0 ∨ 1000 < p.ab) : plE n p = 2 := by rw [plE, if_neg h, if_pos h1]
theorem plE_3 {n : Int} {p : Pl} (h : ¬ (p.ho < 0 ∨ n ≤ p.ho ∨ p.aw < 0 ∨ n ≤ p.aw ∨ p.ho = p.aw)) (h1 : ¬ (p.hr < 0 ∨ 2000 < p.hr ∨ p.ar < 0 ∨ 2000 < p.ar ∨ p.hb < 0 ∨ 1000 < p.hb ∨ p.ab < 0 ∨ 1000 < p.ab)) (h2 : p.wi < 0 ∨ 2 < p.wi) : plE n p = 3 := by rw [plE, if_neg h, if_neg h1, if_pos h2]
theorem plE_4 {n : Int} {p : Pl} (h : ¬ (p.ho < 0 ∨ n ≤ p.ho ∨ p.aw < 0 ∨ n ≤ p.aw ∨ p.ho = p.aw)) (h1 : ¬ (p.hr < 0 ∨ 2000 < p.hr ∨ p.ar < 0 ∨ 2000 < p.ar ∨ p.hb < 0 ∨ 1000 < p.hb ∨ p.ab < 0 ∨ 1000 < p.ab)) (h2 : ¬ (p.wi < 0 ∨ 2 < p.wi)) (h3 : p.vo = true ∧ (p.wi ≠ 0 ∨ p.hr ≠ 0 ∨ p.hb ≠ 0 ∨ p.ar ≠ 0 ∨ p.ab ≠ 0)) : plE n p = 11 := by rw [plE, if_neg h, if_neg h1, if_neg h2, if_pos h3]
theorem plE_0 {n : Int} {p : Pl} (h : ¬ (p.ho < 0 ∨ n ≤ p.ho ∨ p.aw < 0 ∨ n ≤ p.aw ∨ p.ho = p.aw)) (h1 : ¬ (p.hr < 0 ∨ 2000 < p.hr ∨ p.ar < 0 ∨ 2000 < p.ar ∨ p.hb < 0 ∨ 1000 < p.hb ∨ p.ab < 0 ∨ 1000 < p.ab)) (h2 : ¬ (p.wi < 0 ∨ 2 < p.wi)) (h3 : ¬ (p.vo = true ∧ (p.wi ≠ 0 ∨ p.hr ≠ 0 ∨ p.hb ≠ 0 ∨ p.ar ≠ 0 ∨ p.ab ≠ 0))) : plE n p = 0 := by rw [plE, if_neg h, if_neg h1, if_neg h2, if_neg h3]
theorem plE_z {n : Int} {p : Pl} (h : plE n p = 0) : (0 ≤ p.ho ∧ p.ho < n ∧ 0 ≤ p.aw ∧ p.aw < n ∧ p.ho ≠ p.aw) ∧ ((0 ≤ p.hr ∧ p.hr ≤ 2000) ∧ (0 ≤ p.ar ∧ p.ar ≤ 2000) ∧ (0 ≤ p.hb ∧ p.hb ≤ 1000) ∧ 0 ≤ p.ab ∧ p.ab ≤ 1000) ∧ 0 ≤ p.wi ∧ p.wi ≤ 2 := by
  unfold plE at h
  split at h
  · cases h
  split at h
  · cases h
  split at h
  · cases h
  omega
/-! ### Standings -/
/-- A result counted for one of its teams. -/
def cnS (s : St) (wi r b o a w : Int) : St :=
  { s with pl := s.pl + 1, rf := s.rf + r, bf := s.bf + b, ra := s.ra + o, ba := s.ba + a, sh := if wi = 0 then s.sh + 1 else s.sh, wn := if wi ≠ 0 ∧ wi = w then s.wn + 1 else s.wn, ls := if wi ≠ 0 ∧ wi ≠ w then s.ls + 1 else s.ls, pt := if wi = 0 then s.pt + 1 else if wi = w then s.pt + 2 else s.pt }
theorem cn_0 {s : St} {wi r b o a w : Int} (h : wi = 0) : cnS s wi r b o a w = ⟨s.tm, s.pl + 1, s.wn, s.sh + 1, s.ls, s.pt + 1, s.rf + r, s.bf + b, s.ra + o, s.ba + a⟩ := by simp [cnS, h]
theorem cn_w {s : St} {wi r b o a w : Int} (h : ¬ wi = 0) (h1 : wi = w) : cnS s wi r b o a w = ⟨s.tm, s.pl + 1, s.wn + 1, s.sh, s.ls, s.pt + 2, s.rf + r, s.bf + b, s.ra + o, s.ba + a⟩ := by subst h1; simp [cnS, h]
theorem cn_l {s : St} {wi r b o a w : Int} (h : ¬ wi = 0) (h1 : ¬ wi = w) : cnS s wi r b o a w = ⟨s.tm, s.pl + 1, s.wn, s.sh, s.ls + 1, s.pt, s.rf + r, s.bf + b, s.ra + o, s.ba + a⟩ := by simp [cnS, h, h1]
def upS (t : Int) (s : St) (p : Pl) : St := if p.aw = t then cnS s p.wi p.ar p.ab p.hr p.hb 2 else if p.ho = t then cnS s p.wi p.hr p.hb p.ar p.ab 1 else s
/-- The standing of a team after results. -/
def stdS (l : List Pl) (t : Int) : St := l.foldl (upS t) ⟨t, 0, 0, 0, 0, 0, 0, 0, 0, 0⟩
theorem stdS_snoc (l : List Pl) (u : Nat) (hu : u < l.length) (t : Int) : stdS (l.take (u + 1)) t = upS t (stdS (l.take u) t) (gp l u) := by
  have e : l.take (u + 1) = l.take u ++ [gp l u] := by
    rw [List.take_add_one, List.getElem?_eq_getElem hu]
    simp [gp, List.getD, List.getElem?_eq_getElem hu]
  rw [stdS, e, List.foldl_append]
  rfl
/-- What holds of a standing after u results. -/
def StI (u : Nat) (t : Int) (s : St) : Prop := s.tm = t ∧ s.pt = 2 * s.wn + s.sh ∧ s.pl = s.wn + s.sh + s.ls ∧ (0 ≤ s.wn ∧ 0 ≤ s.sh ∧ 0 ≤ s.ls ∧ s.pl ≤ u) ∧ (0 ≤ s.rf ∧ s.rf ≤ 2000 * u) ∧ (0 ≤ s.bf ∧ s.bf ≤ 1000 * u) ∧ (0 ≤ s.ra ∧ s.ra ≤ 2000 * u) ∧ 0 ≤ s.ba ∧ s.ba ≤ 1000 * u
theorem cnS_inv {u : Nat} {t : Int} {s : St} {wi r b o a w : Int} (h : StI u t s) (hr : 0 ≤ r ∧ r ≤ 2000) (hb : 0 ≤ b ∧ b ≤ 1000) (ho : 0 ≤ o ∧ o ≤ 2000) (ha : 0 ≤ a ∧ a ≤ 1000) (hw : w ≠ 0) : StI (u + 1) t (cnS s wi r b o a w) := by
  unfold StI at h ⊢
  obtain ⟨h1, h2, h3, h4, h5, h6, h7, h8⟩ := h
  unfold cnS
  simp only
  by_cases c : wi = 0
  · simp only [c, if_true, ne_eq, not_true_eq_false, false_and, if_false]
    omega
  · by_cases d : wi = w
    · simp only [c, d, hw, if_true, ne_eq, not_true_eq_false, not_false_eq_true, true_and, and_false, and_true, if_false]
      omega
    · simp only [c, d, ne_eq, not_false_eq_true, true_and, if_true, if_false, and_self, and_false]
      omega
theorem stdS_inv {n : Int} {l : List Pl} (hl : ∀ i, i < l.length → plE n (gp l i) = 0) (t : Int) : ∀ u, u ≤ l.length → StI u t (stdS (l.take u) t)
  | 0, _ => by rw [List.take_zero]; unfold StI stdS; simp
  | u + 1, hu => by
    have ih := stdS_inv hl t u (by omega)
    have hz := plE_z (hl u (by omega))
    rw [stdS_snoc l u (by omega)]
    unfold upS
    split
    · exact cnS_inv ih (by omega) (by omega) (by omega) (by omega) (by decide)
    · split
      · exact cnS_inv ih (by omega) (by omega) (by omega) (by omega) (by decide)
      · unfold StI at ih ⊢
        omega
theorem stI_ok {u : Nat} {t : Int} {s : St} (h : StI u t s) (hu : u ≤ 400) : okS s := by
  unfold StI at h
  unfold okS inS
  omega
/-- The standings of n teams after results, in the order of their numbers. -/
def stds (n : Nat) (l : List Pl) : List St := (List.range n).map fun t : Nat => stdS l (t : Int)
theorem stds_len (n : Nat) (l : List Pl) : (stds n l).length = n := by simp [stds]
end Go.Proofs.Ytdmeioppkannlaa
end
section
set_option linter.unusedSimpArgs false
set_option linter.unusedVariables false
set_option maxHeartbeats 4000000
set_option maxRecDepth 20000
namespace Go.Proofs.Ytdmeioppkannlaa
open Go Go.Am
abbrev intsAV (l : List Int) : AV := .sl l.length (l.map AV.i)
theorem setL_map (l : List Int) (w : Nat) (x : Int) : setL (l.map AV.i) w [AV.i x] = (l.set w x).map AV.i := by
  rw [setL_one, List.map_set]
theorem ms25 (lim : Nat) (H : Heap) (n : Int) (x y : Operand) (ev : Operand → AV) (h0 : 0 ≤ n) (hn : n ≤ 1000000) (h : ev x = AV.i n) (h' : ev y = AV.i n) :
    effV Try.prog lim (.makeSlice 34 x y) ev H = some (.own 1 H.length 0 n.toNat, H ++ [some ((List.replicate n.toNat (0 : Int)).map AV.i)]) := by
  simp only [effV, tk34, ty3, h, h']
  rw [if_pos ⟨rfl, by decide, by omega, by omega, by omega, by omega⟩]
  have key : ∀ k, (List.replicate k ([Value.int .i64 0].map AV.v)).flatten = (List.replicate k (0 : Int)).map AV.i := by
    intro k
    induction k with
    | zero => rfl
    | succ k ih => rw [List.replicate_succ, List.flatten_cons, ih, List.replicate_succ]; rfl
  rw [key]
theorem frz_ownB {H : Heap} {base d z b o n : Nat} {k : Blk} (hb : ¬ b < base) (hk : hget H b = some k) : frz H base (d + 1) (.own z b o n) = .sl n ((k.drop o).map (frz H base d)) := by
  simp [frz, hb, hk]
theorem frz_ints (H : Heap) (b d : Nat) (l : List Int) : (l.map AV.i).map (frz H b (d + 1)) = l.map AV.i := by
  rw [List.map_map]; rfl
theorem frz_ownI {H : Heap} {base d b n : Nat} {l : List Int} (hb : ¬ b < base) (hk : hget H b = some (l.map AV.i)) (hn : n = l.length) : frz H base (d + 2) (.own 1 b 0 n) = intsAV l := by
  rw [frz_ownB hb hk, List.drop_zero, frz_ints, hn]
structure Pr where
  a : Int
  b : Int
deriving DecidableEq
instance : Inhabited Pr := ⟨⟨0, 0⟩⟩
abbrev prC (p : Pr) : List AV := [AV.i p.a, AV.i p.b]
def flatQ (l : List Pr) : List AV := (l.map prC).flatten
abbrev prsAV (l : List Pr) : AV := .sl l.length (flatQ l)
abbrev raceC (P : List Int) (L : List Pr) : List AV := [intsAV P, prsAV L]
abbrev nilP : AV := .v (.slice none 0 0)
theorem flatQ_len (l : List Pr) : (flatQ l).length = l.length * 2 := by
  induction l with
  | nil => rfl
  | cons s l ih => unfold flatQ at ih ⊢; rw [List.map_cons, List.flatten_cons, List.length_append, ih]; simp; omega
theorem flatQ_get : ∀ (l : List Pr) (u k : Nat), u < l.length → k < 2 → (flatQ l)[u * 2 + k]? = (prC (gt l u))[k]?
  | [], u, k, h, _ => by simp at h
  | s :: l, 0, k, _, hk => by
    unfold flatQ
    rw [List.map_cons, List.flatten_cons, Nat.zero_mul, Nat.zero_add, List.getElem?_append_left (by simpa using hk)]
    rfl
  | s :: l, u + 1, k, h, hk => by
    have ih := flatQ_get l u k (by simpa using h) hk
    unfold flatQ at ih ⊢
    rw [List.map_cons, List.flatten_cons, List.getElem?_append_right (by simp; omega)]
    rw [show (u + 1) * 2 + k - (prC s).length = u * 2 + k by simp; omega, ih]
    rfl
theorem ld_pr (l : List Pr) (u : Nat) (h : u < l.length) : partL { size := 2, bytes := 16, agg := true, k := TyK.array 2 3, zero := some [.int .i64 0, .int .i64 0] } (flatQ l) (u * 2) = some (.agg (prC (gt l u))) := by
  rw [pl31 _ _ (by rw [flatQ_len]; omega)]
  congr 2
  apply List.ext_getElem?
  intro j
  rw [List.getElem?_take, List.getElem?_drop]
  by_cases hj : j < 2
  · rw [if_pos hj, flatQ_get l u j h hj]
  · rw [if_neg hj, List.getElem?_eq_none (by simp; omega)]
theorem flatQ_app (w : List Pr) (c : Pr) : flatQ (w ++ [c]) = flatQ w ++ prC c := by
  unfold flatQ
  rw [List.map_append, List.flatten_append]
  simp
theorem bld58 (x y : Int) : buildV Try.prog 31 [(0, AV.i x), (1, AV.i y)] = some (.agg [AV.i x, AV.i y]) := by
  simp only [buildV, ty31, ty3]
  rfl
theorem eq58 (p q : Pr) : binV Try.prog .eql 31 (.agg (prC p)) (.agg (prC q)) = some (.v (.bool (decide (p = q)))) := by
  have h : ∀ a b : Int, scalEq (tyOf Try.prog 3) (AV.i a) (AV.i b) = some (a == b) := fun a b => by simp only [scalEq, ty3, kOf, Option.map_some, if_true]
  have e : eqOk Try.prog 31 = true := eqOk31
  simp only [binV, aggEq, e, tk31, ty3]
  obtain ⟨pa, pb⟩ := p
  obtain ⟨qa, qb⟩ := q
  have c : cellsEq (tyOf Try.prog 3) (prC ⟨pa, pb⟩) (prC ⟨qa, qb⟩) 0 2 = some (decide (Pr.mk pa pb = Pr.mk qa qb)) := by
    simp only [cellsEq, List.getElem?_cons_zero, List.getElem?_cons_succ, h]
    by_cases h1 : pa = qa
    · subst h1
      rw [show (pa == pa) = true by simp]
      by_cases h2 : pb = qb
      · subst h2
        rw [show (pb == pb) = true by simp]
        simp
      · rw [show (pb == qb) = false by simpa using h2]
        simp [h2]
    · rw [show (pa == qa) = false by simpa using h1]
      simp [h1]
  simp only [ty3] at c
  simp [c]
attribute [go_sem] ld_pr bld58 eq58

def norm (p : Pr) : Pr := ⟨min p.a p.b, max p.a p.b⟩
theorem norm_iff (p q : Pr) : (p.a = q.a ∧ p.b = q.b ∨ p.a = q.b ∧ p.b = q.a) ↔ norm p = norm q := by
  simp only [norm, Pr.mk.injEq]
  omega
/-- The different pairs of the first matches. -/
def pairsN (L : List Pr) : Nat → List Pr
  | 0 => []
  | u + 1 => if norm (gt L u) ∈ pairsN L u then pairsN L u else pairsN L u ++ [norm (gt L u)]
def refN (L : List Pr) : Nat → List Pr
  | 0 => []
  | u + 1 => if norm (gt L u) ∈ (refN L u).map norm then refN L u else refN L u ++ [gt L u]
theorem pairs_len (L : List Pr) : ∀ u, (pairsN L u).length ≤ u
  | 0 => Nat.le_refl _
  | u + 1 => by
    have := pairs_len L u
    rw [pairsN]
    split
    · omega
    · simp; omega
/-- A list of pairs as it is gathered: nothing yet, or a block. -/
def OutP (lo : Nat) (H : Heap) (o : AV) (w : List Pr) : Prop := (w = [] ∧ o = nilP) ∨ (w ≠ [] ∧ ∃ b, o = .own 2 b 0 w.length ∧ lo ≤ b ∧ hget H b = some (flatQ w))
theorem OutP.mono {lo : Nat} {H H' : Heap} {o : AV} {w : List Pr} (h : OutP lo H o w) (hh : ∀ b, lo ≤ b → ∀ k, hget H b = some k → hget H' b = some k) : OutP lo H' o w := by
  rcases h with h | ⟨h0, b, h1, h2, h3⟩
  · exact .inl h
  · exact .inr ⟨h0, b, h1, h2, hh b h2 _ h3⟩
theorem OutP.lt {lo b : Nat} {H : Heap} {o : AV} {w : List Pr} (h : OutP lo H o w) (ho : o = .own 2 b 0 w.length) : b < H.length := by
  rcases h with ⟨_, h⟩ | ⟨_, b', h1, _, h3⟩
  · rw [h] at ho; cases ho
  · rw [h1] at ho; cases ho; exact hget_lt h3
theorem bs41 (lim : Nat) (H : Heap) (x : Operand) (ev : Operand → AV) (c : Pr) (h : ev x = .agg (prC c)) :
    effV Try.prog lim (.buildSlice 28 1 #[(0, x)]) ev H = some (.own 2 H.length 0 1, H ++ [some (prC c)]) := by
  simp only [effV, tk28, ty31]
  rw [if_pos ⟨rfl, by decide, by decide⟩]
  simp only [List.map_cons, List.map_nil, h]
  rfl
theorem outP_append {lim lo hi : Nat} {H : Heap} {o : AV} {w : List Pr} {c : Pr} {b' : Nat} (h : OutP lo H o w) (hob : ∀ b, o = .own 2 b 0 w.length → b < hi) (hc : hget H b' = some (prC c)) (hl : lim ≤ lo) (hlo : lo ≤ H.length) (hw : w.length ≤ 100000) :
    ∃ b, lo ≤ b ∧ (b < hi ∨ b = H.length) ∧ ∃ H', appendV Try.prog lim H 28 o (.own 2 b' 0 1) = some (.own 2 H.length 0 (w.length + 1), H') ∧ MGrew H b H' (flatQ (w ++ [c])) := by
  rcases h with ⟨rfl, rfl⟩ | ⟨h0, b, rfl, h2, h3⟩
  · refine ⟨H.length, hlo, .inr rfl, _, ?_, MGrew.ofNew _ (MNew.of _ _)⟩
    simp only [appendV, tk28, ty31, srcCells, hc]
    rw [if_pos (by simp)]
    simp only [List.length_cons, List.length_nil]
    rw [if_pos ⟨trivial, by decide, rfl⟩]
    rw [if_pos ⟨by omega, by omega⟩]
    rfl
  · refine ⟨b, h2, .inl (hob b rfl), _, ?_, MGrew.of _ _ _⟩
    simp only [appendV, tk28, ty31, srcCells, hc, h3]
    rw [if_pos (by simp)]
    simp only [List.length_cons, List.length_nil]
    rw [if_pos ⟨trivial, by decide, rfl⟩]
    simp only [List.drop_zero, flatQ_len]
    rw [if_pos ⟨by omega, trivial, by omega, by omega, by omega⟩]
    rw [List.take_of_length_le (by rw [flatQ_len]; omega), flatQ_app]
    rfl
theorem frz_prs (H : Heap) (b d : Nat) (l : List Pr) : (flatQ l).map (frz H b (d + 1)) = flatQ l := by
  unfold flatQ
  rw [List.map_flatten, List.map_map]
  congr 1
theorem OutP.frz {H : Heap} {base d : Nat} {o : AV} {w : List Pr} (h : OutP base H o w) : Go.Am.frz H base (d + 2) o = if w = [] then nilP else prsAV w := by
  rcases h with ⟨rfl, rfl⟩ | ⟨h0, b, rfl, h2, h3⟩
  · rfl
  · rw [frz_ownB (by omega) h3, List.drop_zero, frz_prs]
    rw [if_neg h0]
def pairsA (L : List Pr) : AV := if pairsN L L.length = [] then nilP else prsAV (pairsN L L.length)
theorem pairsA_len (L : List Pr) : lenV (tyOf Try.prog 28) (pairsA L) = some (AV.i ((pairsN L L.length).length : Nat)) := by
  unfold pairsA
  split
  · rename_i h; rw [h]; simp only [lenV, ty28, kOf, Option.map_some]; rfl
  · simp only [lenV, ty28, kOf, Option.map_some]
theorem pairs_new {lo b : Nat} {H H' : Heap} {L : List Pr} {u : Nat} (g : MGrew H b H' (flatQ (pairsN L u ++ [norm (gt L u)]))) (hlo : lo ≤ H.length) (hn : ¬ norm (gt L u) ∈ pairsN L u) : OutP lo H' (.own 2 H.length 0 ((pairsN L u).length + 1)) (pairsN L (u + 1)) := by
  rw [pairsN, if_neg hn]
  exact .inr ⟨by simp, H.length, by simp, hlo, g.new⟩
theorem pairs_old {lo : Nat} {H : Heap} {o : AV} {L : List Pr} {u : Nat} (h : OutP lo H o (pairsN L u)) (hn : norm (gt L u) ∈ pairsN L u) : OutP lo H o (pairsN L (u + 1)) := by
  rw [pairsN, if_pos hn]; exact h
def prErr (n : Int) (p : Pr) : Int := if p.a < 0 ∨ n ≤ p.a ∨ p.b < 0 ∨ n ≤ p.b ∨ p.a = p.b then 1 else 0
def ptErr (x : Int) : Int := if x < 0 ∨ 800 < x then 2 else 0
def rchkS (P : List Int) (L : List Pr) : Int :=
  if P.length < 2 ∨ 20 < P.length then 2 else if ferr (fun i => ptErr (gt P i)) P.length ≠ 0 then ferr (fun i => ptErr (gt P i)) P.length else if 400 < L.length then 9 else
  if ferr (fun i => prErr P.length (gt L i)) L.length ≠ 0 then ferr (fun i => prErr P.length (gt L i)) L.length else if 40 < (pairsN L L.length).length then 9 else 0
/-- What a race without an error is. -/
structure ROK (P : List Int) (L : List Pr) : Prop where
  n2 : 2 ≤ P.length
  n20 : P.length ≤ 20
  pt : ∀ i, i < P.length → 0 ≤ gt P i ∧ gt P i ≤ 800
  el : L.length ≤ 400
  ed : ∀ i, i < L.length → 0 ≤ (gt L i).a ∧ (gt L i).a < P.length ∧ 0 ≤ (gt L i).b ∧ (gt L i).b < P.length ∧ (gt L i).a ≠ (gt L i).b
  pr : (pairsN L L.length).length ≤ 40
theorem rok_of {P : List Int} {L : List Pr} (h : rchkS P L = 0) : ROK P L := by
  unfold rchkS at h
  split at h
  · cases h
  split at h
  · rename_i h1; exact absurd h h1
  split at h
  · cases h
  split at h
  · rename_i h1; exact absurd h h1
  split at h
  · cases h
  rename_i h1 h2 h3 h4 h5
  refine ⟨by omega, by omega, fun i hi => ?_, by omega, fun i hi => ?_, by omega⟩
  · have := ferr_all (Decidable.not_not.mp h2) i hi
    simp only [ptErr] at this
    split at this
    · cases this
    · omega
  · have := ferr_all (Decidable.not_not.mp h4) i hi
    simp only [prErr] at this
    split at this
    · cases this
    · exact ⟨by omega, by omega, by omega, by omega, by omega⟩
/-- Two lists as they are gathered: nothing yet, or a block each. -/
def OutPN (lo : Nat) (H : Heap) (o1 o2 : AV) (l : List Pr) (N : List Int) : Prop :=
  (l = [] ∧ N = [] ∧ o1 = nilP ∧ o2 = nilP) ∨ (l ≠ [] ∧ N.length = l.length ∧ ∃ b1 b2, o1 = .own 2 b1 0 l.length ∧ o2 = .own 1 b2 0 l.length ∧ lo ≤ b1 ∧ lo ≤ b2 ∧ b1 ≠ b2 ∧ hget H b1 = some (flatQ l) ∧ hget H b2 = some (N.map AV.i))
theorem OutPN.mono {lo : Nat} {H H' : Heap} {o1 o2 : AV} {l : List Pr} {N : List Int} (h : OutPN lo H o1 o2 l N) (hh : ∀ b, lo ≤ b → ∀ k, hget H b = some k → hget H' b = some k) : OutPN lo H' o1 o2 l N := by
  rcases h with h | ⟨h0, h1, b1, b2, h2, h3, h4, h5, h6, h7, h8⟩
  · exact .inl h
  · exact .inr ⟨h0, h1, b1, b2, h2, h3, h4, h5, h6, hh _ h4 _ h7, hh _ h5 _ h8⟩
theorem OutPN.len {lo : Nat} {H : Heap} {o1 o2 : AV} {l : List Pr} {N : List Int} (h : OutPN lo H o1 o2 l N) : lenV (tyOf Try.prog 28) o1 = some (AV.i (l.length : Nat)) := by
  rcases h with ⟨rfl, _, rfl, _⟩ | ⟨h0, h1, b1, b2, rfl, _⟩
  · simp only [lenV, ty28, kOf, Option.map_some]; rfl
  · simp only [lenV, ty28, kOf, Option.map_some]
theorem bs40' (lim : Nat) (H : Heap) (x : Operand) (ev : Operand → AV) (v : Int) (h : ev x = AV.i v) :
    effV Try.prog lim (.buildSlice 34 1 #[(0, x)]) ev H = some (.own 1 H.length 0 1, H ++ [some [AV.i v]]) := by
  simp only [effV, tk34, ty3]
  rw [if_pos ⟨rfl, by decide, by decide⟩]
  simp only [List.map_cons, List.map_nil, h]
  rfl
/-- The numbers, while the pairs are one ahead. -/
def OutN (lo : Nat) (H : Heap) (o2 : AV) (n : Nat) (N : List Int) : Prop := (n = 0 ∧ N = [] ∧ o2 = nilP) ∨ (N.length = n ∧ ∃ b2, o2 = .own 1 b2 0 n ∧ lo ≤ b2 ∧ hget H b2 = some (N.map AV.i))
theorem OutN.keep {lo n : Nat} {H H' : Heap} {o2 : AV} {N : List Int} (h : OutN lo H o2 n N) (hh : ∀ b2 k, o2 = .own 1 b2 0 n → hget H b2 = some k → hget H' b2 = some k) : OutN lo H' o2 n N := by
  rcases h with h | ⟨h1, b2, h2, h3, h4⟩
  · exact .inl h
  · exact .inr ⟨h1, b2, h2, h3, hh _ _ h2 h4⟩
def refA (L : List Pr) : AV := if refN L L.length = [] then nilP else prsAV (refN L L.length)
theorem OutPN.frz {H : Heap} {base d : Nat} {o1 o2 : AV} {l : List Pr} {N : List Int} (h : OutPN base H o1 o2 l N) : Go.Am.frz H base (d + 2) o1 = (if l = [] then nilP else prsAV l) ∧ Go.Am.frz H base (d + 2) o2 = (if N = [] then nilP else intsAV N) := by
  rcases h with ⟨rfl, rfl, rfl, rfl⟩ | ⟨h0, h1, b1, b2, rfl, rfl, h4, h5, h6, h7, h8⟩
  · exact ⟨rfl, rfl⟩
  · have hN : N ≠ [] := fun hh => by subst hh; exact h0 (List.length_eq_zero_iff.1 h1.symm)
    rw [frz_ownB (by omega) h7, List.drop_zero, frz_prs, frz_ownB (by omega) h8, List.drop_zero, frz_ints, if_neg h0, if_neg hN]
    exact ⟨rfl, by show AV.sl l.length _ = AV.sl N.length _; rw [h1]⟩
theorem OutPN.lo {lo lo' : Nat} {H : Heap} {o1 o2 : AV} {l : List Pr} {N : List Int} (h : OutPN lo H o1 o2 l N) (hl : lo' ≤ lo) : OutPN lo' H o1 o2 l N := by
  rcases h with h | ⟨h0, h1, b1, b2, h2, h3, h4, h5, h6⟩
  · exact .inl h
  · exact .inr ⟨h0, h1, b1, b2, h2, h3, by omega, by omega, h6⟩
abbrev raceO (b : Nat) (P : List Int) (L : List Pr) : List AV := [.own 1 b 0 P.length, prsAV L]
theorem frz_raceO {H : Heap} {b : Nat} {P : List Int} (L : List Pr) (hb : hget H b = some (P.map AV.i)) : frz H 0 8 (.agg (raceO b P L)) = .agg (raceC P L) := by
  show AV.agg [frz H 0 7 (.own 1 b 0 P.length), AV.sl _ ((flatQ L).map (frz H 0 6))] = _
  rw [frz_ownI (d := 5) (by omega) hb rfl, frz_prs]

end Go.Proofs.Ytdmeioppkannlaa
end
section
set_option linter.unusedVariables false
set_option linter.unusedSimpArgs false
namespace Go.Proofs.Ytdmeioppkannlaa
open Go Go.Am
theorem ld_pl (l : List Pl) (u : Nat) (h : u < l.length) : partL { size := 8, bytes := 64, agg := true, k := TyK.struct [(0, 3), (1, 3), (2, 3), (3, 3), (4, 3), (5, 3), (6, 3), (7, 4)], zero := some [.int .i64 0, .int .i64 0, .int .i64 0, .int .i64 0, .int .i64 0, .int .i64 0, .int .i64 0, .bool false] } (flatP l) (u * 8) = some (.agg (plC (gp l u))) := by
  rw [pl46 _ _ (by rw [flatP_len]; omega)]
  exact congrArg (fun c => some (AV.agg c)) (cut_of rfl fun k hk => flatP_get l u k h hk)
/-- Standings as cells. -/
def flatZ (l : List St) : List AV := (l.map stL).flatten
abbrev stsAV (l : List St) : AV := .sl l.length (flatZ l)
abbrev gz (l : List St) (u : Nat) : St := l.getD u ⟨0, 0, 0, 0, 0, 0, 0, 0, 0, 0⟩
theorem flatZ_len (l : List St) : (flatZ l).length = l.length * 10 := by
  induction l with
  | nil => rfl
  | cons s l ih => unfold flatZ at ih ⊢; rw [List.map_cons, List.flatten_cons, List.length_append, ih]; simp; omega
theorem flatZ_get : ∀ (l : List St) (u k : Nat), u < l.length → k < 10 → (flatZ l)[u * 10 + k]? = (stL (gz l u))[k]?
  | [], u, k, h, _ => by simp at h
  | s :: l, 0, k, _, hk => by
    unfold flatZ
    rw [List.map_cons, List.flatten_cons, Nat.zero_mul, Nat.zero_add, List.getElem?_append_left (by simpa using hk)]
    rfl
  | s :: l, u + 1, k, h, hk => by
    have ih := flatZ_get l u k (by simpa using h) hk
    unfold flatZ at ih ⊢
    rw [List.map_cons, List.flatten_cons, List.getElem?_append_right (by simp; omega)]
    rw [show (u + 1) * 10 + k - (stL s).length = u * 10 + k by simp; omega, ih]
    rfl
theorem ld_st (l : List St) (u : Nat) (h : u < l.length) : partL { size := 10, bytes := 80, agg := true, k := TyK.struct [(0, 3), (1, 3), (2, 3), (3, 3), (4, 3), (5, 3), (6, 3), (7, 3), (8, 3), (9, 3)], zero := some [.int .i64 0, .int .i64 0, .int .i64 0, .int .i64 0, .int .i64 0, .int .i64 0, .int .i64 0, .int .i64 0, .int .i64 0, .int .i64 0] } (flatZ l) (u * 10) = some (stA (gz l u)) := by
  rw [pl51 _ _ (by rw [flatZ_len]; omega)]
  exact congrArg (fun c => some (AV.agg c)) (cut_of rfl fun k hk => flatZ_get l u k h hk)
theorem gAr (pre r : List AV) (i : Nat) : (pre ++ r)[pre.length + i]? = r[i]? := by rw [List.getElem?_append_right (by omega)]; congr 1; omega
theorem sAr (pre r : List AV) (i : Nat) (x : AV) : (pre ++ r).set (pre.length + i) x = pre ++ r.set i x := by
  rw [List.set_append_right _ _ (by omega)]
  congr 2
  omega
theorem sAr0 (pre r : List AV) (x : AV) : (pre ++ r).set pre.length x = pre ++ r.set 0 x := sAr pre r 0 x
/-- A standing whose points are not reckoned yet. -/
abbrev stW (s : St) : List AV := [AV.i s.tm, AV.i s.pl, AV.i s.wn, AV.i s.sh, AV.i s.ls, AV.i 0, AV.i s.rf, AV.i s.bf, AV.i s.ra, AV.i s.ba]
/-- One block was written, others made: the older ones but that one are as they were. -/
structure But (b : Nat) (H H' : Heap) : Prop where
  len : H.length ≤ H'.length
  old : ∀ c, c < H.length → c ≠ b → hget H' c = hget H c
theorem But.new {b : Nat} {H H' : Heap} {k : Blk} (n : MNew H H' k) : But b H H' := ⟨by rw [n.len]; omega, fun c hc _ => n.old c hc⟩
theorem But.wrote {b : Nat} {H H1 H2 : Heap} {k : Blk} (h : But b H H1) (n : MWrote H1 b H2 k) : But b H H2 := ⟨by rw [n.len]; exact h.len, fun c hc hb => (n.old c hb).trans (h.old c hc hb)⟩
theorem st_app (z : St) (post : List AV) : stL z ++ post = AV.i z.tm :: AV.i z.pl :: AV.i z.wn :: AV.i z.sh :: AV.i z.ls :: AV.i z.pt :: AV.i z.rf :: AV.i z.bf :: AV.i z.ra :: AV.i z.ba :: post := rfl
attribute [go_sem] ld_pl ld_st gAr sAr sAr0
end Go.Proofs.Ytdmeioppkannlaa
end
section
namespace Go.Proofs
open Go.Shelf
def Try.lays264_ren : Go.Shelf.Ren := ⟨fun | 264 => 58 | n => n, fun | 53 => 107 | 46 => 91 | n => n, fun | n => n⟩
theorem Try.lays264 : Go.Proofs.Lays.n264 Try.prog Try.lays264_ren := {
  mixed := by kernel_rfl
  f264 := Try.func58.trans (congrArg some (by kernel_rfl))
  t46 := Try.underlying91
  a46 := Try.isAgg91
  z46 := Try.sizeOf91
  v46 := Try.zeroValue91
  t53 := Try.underlying107
  a53 := Try.isAgg107
  z53 := Try.sizeOf107
  v53 := Try.zeroValue107 }
open Go.RowKit Go.Lib in
theorem Try.bits_Mul64 (x y : Nat) (hx : x < 18446744073709551616) (hy : y < 18446744073709551616) (w : World) :
    Calls Try.prog 58 #[.int .u64 x, .int .u64 y] w fun e w' => e = .returned (.tuple #[.int .u64 ((x * y / 18446744073709551616 : Nat) : Int), .int .u64 ((x * y % 18446744073709551616 : Nat) : Int)]) ∧ w' = w := Any.bits_Mul64 Try.lays264 x y hx hy w
end Go.Proofs
end
section
set_option linter.unusedVariables false
namespace Go.Proofs.Ytdmeioppkannlaa
open Go Go.Am Go.Sort
abbrev SO := {z : St // okS z}
instance : Inhabited SO := ⟨⟨⟨0, 0, 0, 0, 0, 0, 0, 0, 0, 0⟩, by decide⟩⟩
def cmO (x y : SO) : Int := cmS x.1 y.1
def encS (z : SO) : List Value := [.int .i64 z.1.tm, .int .i64 z.1.pl, .int .i64 z.1.wn, .int .i64 z.1.sh, .int .i64 z.1.ls, .int .i64 z.1.pt, .int .i64 z.1.rf, .int .i64 z.1.bf, .int .i64 z.1.ra, .int .i64 z.1.ba]
theorem cmS_self (x : St) : cmS x x = 0 := by have := cmS_anti x x; omega
theorem cmS_zero {x y : St} (h : cmS x y = 0) : x.tm = y.tm := by
  have h0 := cmS_anti x y
  have h1 := (cmS_le x y).1 (by omega)
  have h2 := (cmS_le y x).1 (by omega)
  have h3 := crS_anti x y
  omega
theorem lt_iff (x y : SO) : ltOf cmO x y = true ↔ cmS x.1 y.1 < 0 := by unfold ltOf cmO; simp
theorem lt_not (x y : SO) : ltOf cmO x y = false ↔ cmS y.1 x.1 ≤ 0 := by
  have := cmS_anti x.1 y.1
  unfold ltOf cmO
  simp
  omega
theorem swoS : SWO (ltOf cmO) where
  irrefl x := by rw [lt_not, cmS_self]; omega
  trans x y z h1 h2 := by
    rw [lt_iff] at *
    have a := cmS_trans x.2 y.2 z.2 (by omega) (by omega)
    rcases Int.lt_or_eq_of_le a with h | h
    · exact h
    · have b := cmS_trans z.2 x.2 y.2 (by have := cmS_anti x.1 z.1; omega) (by omega : cmS x.1 y.1 ≤ 0)
      have := cmS_anti y.1 z.1
      omega
  ntrans x y z h1 h2 := by
    rw [lt_not] at *
    exact cmS_trans z.2 y.2 x.2 h2 h1
/-- A standing laid into a row that is read from its end. -/
def insR (s : SO) : List SO → List SO
  | [] => [s]
  | a :: r => if cmS s.1 a.1 < 0 then a :: insR s r else s :: a :: r
def sortL (ps : List SO) : List SO := ps.foldl (fun o s => (insR s o.reverse).reverse) []
theorem insR_perm (s : SO) : ∀ l, (insR s l).Perm (s :: l)
  | [] => List.Perm.refl _
  | a :: r => by
    unfold insR
    split
    · exact ((insR_perm s r).cons a).trans (List.Perm.swap s a r)
    · exact List.Perm.refl _
theorem insR_sorted (s : SO) : ∀ l : List SO, l.Pairwise (fun x y => cmO y x ≤ 0) → (insR s l).Pairwise (fun x y => cmO y x ≤ 0)
  | [], _ => List.pairwise_singleton _ _
  | a :: r, h => by
    have ha := List.pairwise_cons.mp h
    unfold insR
    split
    · rename_i hs
      refine List.pairwise_cons.mpr ⟨fun y hy => ?_, insR_sorted s r ha.2⟩
      rcases List.mem_cons.mp ((insR_perm s r).mem_iff.mp hy) with rfl | hy
      · exact Int.le_of_lt hs
      · exact ha.1 y hy
    · rename_i hs
      have h0 : cmO a s ≤ 0 := by have := cmS_anti s.1 a.1; unfold cmO; omega
      refine List.pairwise_cons.mpr ⟨fun y hy => ?_, h⟩
      rcases List.mem_cons.mp hy with rfl | hy
      · exact h0
      · exact cmS_trans y.2 a.2 s.2 (ha.1 y hy) h0
theorem fold_perm : ∀ (ps o : List SO), (ps.foldl (fun o s => (insR s o.reverse).reverse) o).Perm (o ++ ps)
  | [], o => by simp
  | p :: ps, o => by
    rw [List.foldl_cons]
    refine (fold_perm ps _).trans ?_
    refine (List.Perm.append_right ps ((List.reverse_perm _).trans ((insR_perm p _).trans ((List.reverse_perm o).cons p)))).trans ?_
    exact List.perm_middle.symm
theorem fold_sorted : ∀ (ps o : List SO), o.Pairwise (fun x y => cmO x y ≤ 0) → (ps.foldl (fun o s => (insR s o.reverse).reverse) o).Pairwise (fun x y => cmO x y ≤ 0)
  | [], o, h => h
  | p :: ps, o, h => by
    rw [List.foldl_cons]
    refine fold_sorted ps _ ?_
    rw [List.pairwise_reverse]
    exact insR_sorted p _ (by rw [List.pairwise_reverse]; exact h)
theorem sortL_perm (ps : List SO) : (sortL ps).Perm ps := fold_perm ps []
theorem sortL_sorted (ps : List SO) : (sortL ps).Pairwise (fun x y => cmO x y ≤ 0) := fold_sorted ps [] List.Pairwise.nil
theorem nodup_tm {l : List SO} (h : (l.map (·.1.tm)).Nodup) {x y : SO} (hx : x ∈ l) (hy : y ∈ l) (e : x.1.tm = y.1.tm) : x = y := by
  induction l with
  | nil => cases hx
  | cons a r ih =>
    rw [List.map_cons, List.nodup_cons] at h
    rcases List.mem_cons.mp hx with h1 | h1 <;> rcases List.mem_cons.mp hy with h2 | h2
    · rw [h1, h2]
    · subst h1
      exact (h.1 (List.mem_map.mpr ⟨y, h2, e.symm⟩)).elim
    · subst h2
      exact (h.1 (List.mem_map.mpr ⟨x, h1, e⟩)).elim
    · exact ih h.2 h1 h2
theorem sort_unique {l l' : List SO} (hp : l'.Perm l) (hs : l'.Pairwise (fun x y => cmO x y ≤ 0)) (hn : (l.map (·.1.tm)).Nodup) : l' = sortL l := by
  refine List.Perm.eq_of_pairwise (le := fun x y => cmO x y ≤ 0) (fun a b ha hb h1 h2 => ?_) hs (sortL_sorted l) (hp.trans (sortL_perm l).symm)
  refine nodup_tm hn (hp.mem_iff.mp ha) ((sortL_perm l).mem_iff.mp hb) (cmS_zero ?_)
  have := cmS_anti a.1 b.1
  unfold cmO at h1 h2
  omega
theorem sorted_is {d d' : Array SO} (hp : PermIn 0 d.size d d') (hs : SortedIn (ltOf cmO) 0 d.size d') (hn : (d.toList.map (·.1.tm)).Nodup) : d'.toList = sortL d.toList := by
  obtain ⟨h1, _, h2⟩ := hp
  have e1 : d'.extract 0 d.size = d' := by rw [← h1]; simp
  have e2 : d.extract 0 d.size = d := by simp
  rw [e1, e2] at h2
  refine sort_unique h2 ?_ hn
  rw [List.pairwise_iff_getElem]
  intro i j hi hj hij
  have hi' : i < d'.size := by simpa using hi
  have hj' : j < d'.size := by simpa using hj
  have := hs i j (Nat.zero_le _) hij (by omega)
  rw [lt_not, getElem!_pos d' i hi', getElem!_pos d' j hj'] at this
  simpa [cmO] using this
end Go.Proofs.Ytdmeioppkannlaa
end
section
set_option linter.unusedVariables false
namespace Go.Proofs.Ytdmeioppkannlaa
open Go Go.Am Go.RowKit Go.Sort
instance dnT : Dn := ⟨True⟩
def add64V : List AV → Heap → Option AV
  | [.v (.int .u64 x), .v (.int .u64 y), .v (.int .u64 c)], _ => if 0 ≤ x ∧ 0 ≤ y ∧ 0 ≤ c ∧ c ≤ 1 then some (.tup [.v (.int .u64 ((x + y + c) % 18446744073709551616)), .v (.int .u64 ((x + y + c) / 18446744073709551616))]) else none
  | _, _ => none
def mul64V : List AV → Heap → Option AV
  | [.v (.int .u64 x), .v (.int .u64 y)], _ => if (0 ≤ x ∧ x ≤ 18446744073709551615) ∧ 0 ≤ y ∧ y ≤ 18446744073709551615 then some (.tup [.v (.int .u64 (x * y / 18446744073709551616)), .v (.int .u64 (x * y % 18446744073709551616))]) else none
  | _, _ => none
theorem two_args {φ : Phi} {I : Nat → Prop} {w : World} {a b : Value} {cs : Array Value} (h : DL φ I w [.v a, .v b] cs) : cs = #[a, b] := by
  obtain ⟨l⟩ := cs
  have hl : l.length = 2 := by simpa using h.1
  match l, hl, h with
  | [x, y], _, h =>
    have h0 := den_v (h.2 0 _ x rfl rfl)
    have h1 := den_v (h.2 1 _ y rfl rfl)
    rw [h0, h1]
theorem three_args {φ : Phi} {I : Nat → Prop} {w : World} {a b c : Value} {cs : Array Value} (h : DL φ I w [.v a, .v b, .v c] cs) : cs = #[a, b, c] := by
  obtain ⟨l⟩ := cs
  have hl : l.length = 3 := by simpa using h.1
  match l, hl, h with
  | [x, y, z], _, h =>
    have h0 := den_v (h.2 0 _ x rfl rfl)
    have h1 := den_v (h.2 1 _ y rfl rfl)
    have h2 := den_v (h.2 2 _ z rfl rfl)
    rw [h0, h1, h2]
theorem named58 : Named Try.prog 58 := ⟨Try.f58, Try.func58, by kernel_rfl, by kernel_rfl⟩
/-- The model's own entries for the sums and differences with a carry. -/
def addE : Array Value → Sem Value := fun args => do
  let (x, y, c) ← Extern.MathBitsCarry.three "Add64" args
  pure (Extern.MathBitsCarry.pair ((x + y + c) % Extern.MathBitsCarry.m64) ((x + y + c) / Extern.MathBitsCarry.m64))
theorem run_addE {P : Program} (x y c : Nat) (hc : c ≤ 1) (w : World) :
    (addE #[.int .u64 x, .int .u64 y, .int .u64 c]).run P w = .ok (.tuple #[.int .u64 (((x + y + c) % 18446744073709551616 : Nat) : Int), .int .u64 (((x + y + c) / 18446744073709551616 : Nat) : Int)]) w := by
  have : c = 0 ∨ c = 1 := by omega
  rcases this with rfl | rfl <;> rfl
theorem run61 (x y c : Nat) (hc : c ≤ 1) (w : World) :
    (callFunc 61 #[.int .u64 x, .int .u64 y, .int .u64 c]).run Try.prog w = .ok (.value (.tuple #[.int .u64 (((x + y + c) % 18446744073709551616 : Nat) : Int), .int .u64 (((x + y + c) / 18446744073709551616 : Nat) : Int)])) w := by
  rw [run_callFunc_extern Try.func61 (by kernel_rfl) (by kernel_rfl) (by kernel_rfl) (e := addE) (by kernel_rfl), run_addE x y c hc]
  rfl
theorem den_two {φ : Phi} {I : Nat → Prop} {w : World} (a b : Value) : Den φ I w (.tup [.v a, .v b]) (.tuple #[a, b]) :=
  .tup _ _ rfl (fun j x y hx hy => (DL.vs (φ := φ) (I := I) (w := w) [_, _]).2 j x y hx hy)
theorem nat_of {x : Int} (h : 0 ≤ x) : ∃ n : Nat, x = (n : Int) := ⟨x.toNat, by omega⟩
def primC : FuncId → Option (List AV → Heap → Option AV)
  | 61 => some add64V
  | 58 => some mul64V
  | _ => none
theorem primC_ok : ∀ f p, primC f = some p → ∀ args H r, p args H = some r → ∀ (lim : Nat) (φ : Phi) (I : Nat → Prop) (w : World) (cs : Array Value), Tb w → Rel lim φ I w H → DL φ I w args cs → CallW Try.prog f cs w (PurePost φ I w lim H r) := by
  intro f p h args H r hr lim φ I w cs hT hR hD
  unfold primC at h
  split at h
  · cases h
    unfold add64V at hr
    split at hr
    · rename_i x y c _
      cases three_args hD
      split at hr
      · rename_i hk
        obtain ⟨hx, hy, hc, hc1⟩ := hk
        obtain ⟨x, rfl⟩ := nat_of hx
        obtain ⟨y, rfl⟩ := nat_of hy
        obtain ⟨c, rfl⟩ := nat_of hc
        cases hr
        exact .inr ⟨_, fun w' => run61 x y c (by omega) w', _, I, rfl, den_two _ _, fun _ h => h, Bel.refl _ _, hR⟩
      · cases hr
    · cases hr
  · cases h
    unfold mul64V at hr
    split at hr
    · rename_i x y _
      cases two_args hD
      split at hr
      · rename_i hk
        obtain ⟨⟨hx, hx1⟩, hy, hy1⟩ := hk
        obtain ⟨x, rfl⟩ := nat_of hx
        obtain ⟨y, rfl⟩ := nat_of hy
        cases hr
        refine .inl ⟨named58, (Try.bits_Mul64 x y (by omega) (by omega) w).mono ?_⟩
        rintro e w' ⟨rfl, rfl⟩
        exact ⟨_, I, rfl, den_two _ _, fun _ h => h, Bel.refl _ _, hR⟩
      · cases hr
    · cases hr
  · cases h
end Go.Proofs.Ytdmeioppkannlaa
end
section
set_option linter.unusedVariables false
namespace Go.Proofs.Ytdmeioppkannlaa.C
open Go Go.Am
noncomputable def fns : FuncId → Option FnA
  | 22 => some fa22
  | 34 => some fa34
  | 31 => some fa31
  | 35 => some fa35
  | 49 => some fa49
  | 50 => some fa50
  | 51 => some fa51
  | 57 => some fa57
  | 59 => some fa59
  | _ => none
noncomputable def sig : Sig := { P := Try.prog, fns := fns, prim := primC, own := fun _ => false, fz := fun _ => false }
theorem fnOK22 : FnOK Try.prog sig.pure 22 fa22 := ⟨Try.func22, by kernel_rfl, fun c hc => by cases hc; kernel_rfl⟩
theorem fnOK34 : FnOK Try.prog sig.pure 34 fa34 := ⟨Try.func34, by kernel_rfl, fun c hc => by cases hc; kernel_rfl⟩
theorem fnOK31 : FnOK Try.prog sig.pure 31 fa31 := ⟨Try.func31, by kernel_rfl, fun c hc => by cases hc; kernel_rfl⟩
theorem fnOK35 : FnOK Try.prog sig.pure 35 fa35 := ⟨Try.func35, by kernel_rfl, fun c hc => by cases hc; kernel_rfl⟩
theorem fnOK49 : FnOK Try.prog sig.pure 49 fa49 := ⟨Try.func49, by kernel_rfl, fun c hc => by cases hc; kernel_rfl⟩
theorem fnOK50 : FnOK Try.prog sig.pure 50 fa50 := ⟨Try.func50, by kernel_rfl, fun c hc => by cases hc; kernel_rfl⟩
theorem fnOK51 : FnOK Try.prog sig.pure 51 fa51 := ⟨Try.func51, by kernel_rfl, fun c hc => by cases hc; kernel_rfl⟩
theorem fnOK57 : FnOK Try.prog sig.pure 57 fa57 := ⟨Try.func57, by kernel_rfl, fun c hc => by cases hc; kernel_rfl⟩
theorem fnOK59 : FnOK Try.prog sig.pure 59 fa59 := ⟨Try.func59, by kernel_rfl, fun c hc => by cases hc; kernel_rfl⟩
theorem fns_ok : ∀ f fa, fns f = some fa → FnOK Try.prog sig.pure f fa := by
  intro f fa h
  unfold fns at h
  split at h <;> first | (cases h; done) | skip
  · cases h; exact fnOK22
  · cases h; exact fnOK34
  · cases h; exact fnOK31
  · cases h; exact fnOK35
  · cases h; exact fnOK49
  · cases h; exact fnOK50
  · cases h; exact fnOK51
  · cases h; exact fnOK57
  · cases h; exact fnOK59
theorem sig_ok : SigOK sig := ⟨by kernel_rfl, fns_ok, fun f h => by simp [sig] at h, fun f p h => ⟨rfl, primC_ok f p h⟩, fun f p h => by cases h⟩
theorem sigP : sig.P = Try.prog := rfl
attribute [go_sem] sigP
end Go.Proofs.Ytdmeioppkannlaa.C
end
section
set_option linter.unusedSimpArgs false
set_option linter.unusedVariables false
set_option maxHeartbeats 1000000
set_option maxRecDepth 20000
namespace Go.Proofs.Ytdmeioppkannlaa.C
open Go Go.Am
abbrev lc_within_ok (a b c : AV) : Env := [(0,a),(1,b),(4,c)]
theorem within_ok (lim : Nat) (H : Heap) (n hi : Int) : ACall sig lim 31 [AV.i n, AV.i hi] H fun r H' => r = .v (.bool (decide (0 ≤ n ∧ n ≤ hi))) ∧ H' = H := by
 refine ACall_pure (fa := fa31) rfl rfl rfl rfl ?_
 have tr : ∀ a0 a1 : AV, env0 fa31.keep [a0, a1] = lc_within_ok a0 a1 .any := fun a0 a1 => rfl
 refine W_to (tr _ _) ?_; clear tr
 refine at_seq rfl ?_
 refine rg rfl ?_
 refine Rq ?_
 have tr : ∀ a b c d : AV, let l := lc_within_ok a b c; trim ((4,d)::l) l = lc_within_ok a b d := by intros; rfl
 refine R_nil (tr ..) ?_; clear tr
 refine then_n ?_
 refine at_seq rfl ?_
 refine rg rfl ?_
 refine Rq ?_
 refine Rq ?_
 refine Rq ?_
 refine Rp_split (fun h1 => ?_) (fun h1 => ?_)
 ·
  try simp only [decide_eq_true_eq, decide_eq_false_iff_not, decide_eq_decide, Bool.not_eq_true', Bool.not_eq_false', beq_iff_eq, beq_eq_false_iff_ne, ne_eq, Bool.and_eq_true, Bool.and_eq_false_iff, decide_not] at h1
  refine Ry ?_
  refine Rq ?_
  refine Ry ?_
  refine Rq ?_
  refine Ry ?_
  refine Rq ?_
  refine Rq ?_
  refine Rq ?_
  have tr : ∀ a b c d e f g h i j k : AV, let l := lc_within_ok a b c; trim ((4,k)::(11,j)::(10,i)::(9,h)::(8,g)::(7,f)::(6,e)::(5,d)::l) l = lc_within_ok a b k := by intros; rfl
  refine R_nil (tr ..) ?_; clear tr
  refine then_n ?_
  refine at_ret rfl ?_
  refine fpure ?_
  refine ⟨?_, rfl⟩
  refine congrArg (fun b => AV.v (.bool b)) ?_
  first | rfl | exact (decide_eq_false (by omega)).symm | exact (decide_eq_true (by omega)).symm | (rw [decide_eq_decide]; omega) | (simp; omega)
 ·
  try simp only [decide_eq_true_eq, decide_eq_false_iff_not, decide_eq_decide, Bool.not_eq_true', Bool.not_eq_false', beq_iff_eq, beq_eq_false_iff_ne, ne_eq, Bool.and_eq_true, Bool.and_eq_false_iff, decide_not] at h1
  refine Rn ?_
  refine Rn ?_
  refine Rn ?_
  refine Rq ?_
  refine Rq ?_
  have tr : ∀ a b c d e f g h i j k : AV, let l := lc_within_ok a b c; trim ((4,k)::(11,j)::(10,i)::(9,h)::(8,g)::(7,f)::(6,e)::(5,d)::l) l = lc_within_ok a b k := by intros; rfl
  refine R_nil (tr ..) ?_; clear tr
  refine then_n ?_
  refine at_ret rfl ?_
  refine fpure ?_
  refine ⟨?_, rfl⟩
  refine congrArg (fun b => AV.v (.bool b)) ?_
  first | rfl | exact (decide_eq_false (by omega)).symm | exact (decide_eq_true (by omega)).symm | (rw [decide_eq_decide]; omega) | (simp; omega)

abbrev lc_before_ok (a b c : AV) : Env := [(0,a),(2,b),(3,c)]
theorem before_ok (lim : Nat) (H : Heap) (b : Bool) : ACall sig lim 34 [.v (.bool b)] H fun r H' => r = AV.i (if b = true then -1 else 1) ∧ H' = H := by
 refine ACall_pure (fa := fa34) rfl rfl rfl rfl ?_
 have tr : ∀ a0 : AV, env0 fa34.keep [a0] = lc_before_ok a0 .any .any := fun a0 => rfl
 refine W_to (tr _) ?_; clear tr
 refine at_seq rfl ?_
 refine rg rfl ?_
 refine Rq ?_
 have tr : ∀ a b c d : AV, let l := lc_before_ok a b c; trim ((2,d)::l) l = lc_before_ok a d c := by intros; rfl
 refine R_nil (tr ..) ?_; clear tr
 refine then_n ?_
 refine at_seq rfl ?_
 refine at_seq rfl ?_
 refine rg rfl ?_
 refine Rq ?_
 have tr : ∀ a b c d : AV, let l := lc_before_ok a b c; trim ((3,d)::l) l = lc_before_ok a b d := by intros; rfl
 refine R_nil (tr ..) ?_; clear tr
 refine then_n ?_
 refine cdd (fun h1 => ?_) (fun h1 => ?_)
 ·
  try simp only [decide_eq_true_eq, decide_eq_false_iff_not, decide_eq_decide, Bool.not_eq_true', Bool.not_eq_false', beq_iff_eq, beq_eq_false_iff_ne, ne_eq, Bool.and_eq_true, Bool.and_eq_false_iff, decide_not] at h1
  refine at_seq rfl ?_
  refine rg rfl ?_
  refine Rq ?_
  have tr : ∀ a b c d : AV, let l := lc_before_ok a b c; trim ((2,d)::l) l = lc_before_ok a d c := by intros; rfl
  refine R_nil (tr ..) ?_; clear tr
  refine then_n ?_
  refine at_ret rfl ?_
  refine then_r ?_
  refine fpure ?_
  refine ⟨?_, rfl⟩
  first | rfl | (rw [if_pos (by assumption)] <;> rfl) | (rw [if_neg (by simp_all)] <;> rfl) | (simp_all <;> rfl)
 ·
  try simp only [decide_eq_true_eq, decide_eq_false_iff_not, decide_eq_decide, Bool.not_eq_true', Bool.not_eq_false', beq_iff_eq, beq_eq_false_iff_ne, ne_eq, Bool.and_eq_true, Bool.and_eq_false_iff, decide_not] at h1
  refine at_skip rfl ?_
  refine then_n ?_
  refine at_seq rfl ?_
  refine rg rfl ?_
  refine Rq ?_
  have tr : ∀ a b c d : AV, let l := lc_before_ok a b c; trim ((2,d)::l) l = lc_before_ok a d c := by intros; rfl
  refine R_nil (tr ..) ?_; clear tr
  refine then_n ?_
  refine at_ret rfl ?_
  refine fpure ?_
  refine ⟨?_, rfl⟩
  first | rfl | (rw [if_pos (by assumption)] <;> rfl) | (rw [if_neg (by simp_all)] <;> rfl) | (simp_all <;> rfl)

abbrev lc_rate_ok (a b c d e f g h i j k m n o p q : AV) : Env := [(0,a),(1,b),(2,c),(3,d),(4,e),(6,f),(7,g),(8,h),(9,i),(10,j),(19,k),(20,m),(21,n),(25,o),(36,p),(38,q)]
theorem rate_ok (lim : Nat) (H : Heap) (z : St) : ACall sig lim 49 [stA z] H fun r H' => r = .tup [AV.i (rtN z), AV.i (rtD z), .v (.bool (decide (okS z)))] ∧ H' = H := by
 refine ACall_pure (fa := fa49) rfl rfl rfl rfl ?_
 have tr : ∀ a0 : AV, env0 fa49.keep [a0] = lc_rate_ok a0 .any .any .any .any .any .any .any .any .any .any .any .any .any .any .any := fun a0 => rfl
 refine W_to (tr _) ?_; clear tr
 refine at_seq rfl ?_
 refine rg rfl ?_
 refine R_box rfl (by simp (disch := first | omega | (simp only [List.length_map, List.length_append, List.length_set, List.length_cons, List.length_nil]; omega)) only [go_sem, ↓reduceIte, Nat.reduceEqDiff, reduceCtorEq] <;> rfl) rfl rfl ?_
 refine Rq ?_
 refine Rq ?_
 refine Rq ?_
 have tr : ∀ a b c d e f g h i j k m n o p q r s t u : AV, let l := lc_rate_ok a b c d e f g h i j k m n o p q; trim ((4,u)::(3,t)::(2,s)::(1,r)::l) l = lc_rate_ok a r s t u f g h i j k m n o p q := by intros; rfl
 refine R_nil (tr ..) ?_; clear tr
 refine then_n ?_
 refine at_seq rfl ?_
 refine at_seq rfl ?_
 refine rg rfl ?_
 refine Rq ?_
 refine Rq ?_
 refine Rq ?_
 refine Rq ?_
 refine Rq ?_
 refine Rq ?_
 refine Rq ?_
 refine Rq ?_
 refine Rq ?_
 refine Rq ?_
 have tr : ∀ a b c d e f g h i j k m n o p q r s t u v w x y z A : AV, let l := lc_rate_ok a b c d e f g h i j k m n o p q; trim ((20,A)::(19,z)::(18,y)::(17,x)::(16,w)::(15,v)::(14,u)::(13,t)::(12,s)::(11,r)::l) l = lc_rate_ok a b c d e f g h i j z A n o p q := by intros; rfl
 refine R_nil (tr ..) ?_; clear tr
 refine then_n ?_
 refine at_block rfl ?_
 refine loop_n rfl (fun mm kv H' => ∃ i : Nat, ∃ x2 x3 x4 x6 x21 x25 : AV, (kv = [(2, x2), (3, x3), (4, x4), (6, x6), (20, AV.i (i : Int)), (21, x21), (25, x25)]) ∧ (mm = 4 - i) ∧ (H' = H ++ [some (stL z)]) ∧ (i ≤ 4) ∧ (∀ j, j < i → inS (gt4 z j))) ⟨0, _, _, _, _, _, _, rfl, rfl, rfl, by omega, by (intro j hj; omega)⟩ (by rfl) ?_
 rintro mm kv H' ⟨i, x2, x3, x4, x6, x21, x25, rfl, rfl, rfl, hi, hr⟩
 have tr : ∀ a b c d e f g h i j k m n o p q r s t u v w x : AV, upd (lc_rate_ok a b c d e f g h i j k m n o p q) [(2,r),(3,s),(4,t),(6,u),(20,v),(21,w),(25,x)] = lc_rate_ok a b r s t u g h i j k v w x p q := by intros; rfl
 refine W_to (tr ..) ?_; clear tr
 refine at_seq rfl ?_
 refine rg rfl ?_
 refine Rq ?_
 have tr : ∀ a b c d e f g h i j k m n o p q r : AV, let l := lc_rate_ok a b c d e f g h i j k m n o p q; trim ((21,r)::l) l = lc_rate_ok a b c d e f g h i j k m r o p q := by intros; rfl
 refine R_nil (tr ..) ?_; clear tr
 refine then_n ?_
 refine at_seq rfl ?_
 refine cdd (fun h1 => ?_) (fun h1 => ?_)
 ·
  try simp only [decide_eq_true_eq, decide_eq_false_iff_not, decide_eq_decide, Bool.not_eq_true', Bool.not_eq_false', beq_iff_eq, beq_eq_false_iff_ne, ne_eq, Bool.and_eq_true, Bool.and_eq_false_iff, decide_not] at h1
  refine at_skip rfl ?_
  refine then_n ?_
  refine at_seq rfl ?_
  refine at_block rfl ?_
  refine at_seq rfl ?_
  refine rg rfl ?_
  refine R_q (r := AV.i (gt4 z i)) rfl (by simp only [go_sem, ↓reduceIte, Nat.reduceEqDiff]; exact ix77 z i (by omega)) ?_
  refine Rq ?_
  have tr : ∀ a b c d e f g h i j k m n o p q r s : AV, let l := lc_rate_ok a b c d e f g h i j k m n o p q; trim ((6,s)::(22,r)::l) l = lc_rate_ok a b c d e s g h i j k m n o p q := by intros; rfl
  refine R_nil (tr ..) ?_; clear tr
  refine then_n ?_
  refine at_seq rfl ?_
  refine rg rfl ?_
  refine Rq ?_
  refine Rcall ?_
  refine ACall_eq (within_ok _ _ _ _) ?_
  refine Rq ?_
  have tr : ∀ a b c d e f g h i j k m n o p q r s t : AV, let l := lc_rate_ok a b c d e f g h i j k m n o p q; trim ((25,t)::(24,s)::(23,r)::l) l = lc_rate_ok a b c d e f g h i j k m n t p q := by intros; rfl
  refine R_nil (tr ..) ?_; clear tr
  refine then_n ?_
  refine cdd (fun h2 => ?_) (fun h2 => ?_)
  ·
   try simp only [decide_eq_true_eq, decide_eq_false_iff_not, decide_eq_decide, Bool.not_eq_true', Bool.not_eq_false', beq_iff_eq, beq_eq_false_iff_ne, ne_eq, Bool.and_eq_true, Bool.and_eq_false_iff, decide_not] at h2
   refine at_seq rfl ?_
   refine rg rfl ?_
   have hno : ¬ okS z := gt4_no (j := i) (by omega) (by unfold inS; omega)
   refine Rq ?_
   refine Rq ?_
   refine Rq ?_
   have tr : ∀ a b c d e f g h i j k m n o p q r s t : AV, let l := lc_rate_ok a b c d e f g h i j k m n o p q; trim ((4,t)::(3,s)::(2,r)::l) l = lc_rate_ok a b r s t f g h i j k m n o p q := by intros; rfl
   refine R_nil (tr ..) ?_; clear tr
   refine then_n ?_
   refine at_ret rfl ?_
   refine blk_r ?_
   refine then_r ?_
   refine then_r ?_
   refine blk_r ?_
   refine then_r ?_
   first | (refine fpure ?_; refine ⟨?_, rfl⟩; rw [rtN_n hno, rtD_n hno, decide_eq_false hno] <;> rfl; done) | (refine fpure ?_; refine ⟨?_, rfl⟩; rw [rtN_y hok, rtD_y hok, decide_eq_true hok] <;> rfl)
  ·
   try simp only [decide_eq_true_eq, decide_eq_false_iff_not, decide_eq_decide, Bool.not_eq_true', Bool.not_eq_false', beq_iff_eq, beq_eq_false_iff_ne, ne_eq, Bool.and_eq_true, Bool.and_eq_false_iff, decide_not] at h2
   refine at_skip rfl ?_
   refine blk_n ?_
   refine then_n ?_
   refine rg rfl ?_
   have hin : inS (gt4 z i) := by unfold inS; omega
   refine Rq ?_
   refine Rq ?_
   have tr : ∀ a b c d e f g h i j k m n o p q r s : AV, let l := lc_rate_ok a b c d e f g h i j k m n o p q; trim ((20,s)::(26,r)::l) l = lc_rate_ok a b c d e f g h i j k s n o p q := by intros; rfl
   refine R_nil (tr ..) ?_; clear tr
   refine then_n ?_
   exact ⟨_, _, ⟨i + 1, _, _, _, _, _, _, rfl, rfl, rfl, by omega, by (intro j hj; rcases Nat.lt_succ_iff_lt_or_eq.mp hj with h | rfl; exact hr j h; exact hin)⟩, by rfl, by omega⟩
 ·
  try simp only [decide_eq_true_eq, decide_eq_false_iff_not, decide_eq_decide, Bool.not_eq_true', Bool.not_eq_false', beq_iff_eq, beq_eq_false_iff_ne, ne_eq, Bool.and_eq_true, Bool.and_eq_false_iff, decide_not] at h1
  refine at_exit rfl ?_
  refine then_x ?_
  refine then_x ?_
  refine blk_x ?_
  refine then_n ?_
  refine at_seq rfl ?_
  refine rd rfl rfl ?_
  obtain rfl : i = 4 := by omega
  have hok := gt4_ok hr
  have hpr := prod_rng hok
  refine Qq ?_
  refine Qq ?_
  refine Qq ?_
  refine Qq ?_
  refine Qq ?_
  refine Qq ?_
  refine Qq ?_
  refine Qq ?_
  refine Qq ?_
  refine Qq ?_
  refine Qq ?_
  refine Qq ?_
  refine Q_nil ?_
  have tr : ∀ a b c d e f g h i j k m n o p q r s t u v w x y z A B C : AV, let l := lc_rate_ok a b c d e f g h i j k m n o p q; trim ((10,C)::(9,B)::(8,A)::(7,z)::(34,y)::(33,x)::(32,w)::(31,v)::(30,u)::(29,t)::(28,s)::(27,r)::l) l = lc_rate_ok a b c d e f z A B C k m n o p q := by intros; rfl
  refine R_nil (tr ..) ?_; clear tr
  refine then_n ?_
  refine seq_cut rfl (fun s => ∃ x2 x3 x4 x6 x20 x21 x25 x36 : AV, s = ⟨[(0, stA z), (1, .ptr H.length 0), (2, x2), (3, x3), (4, x4), (6, x6), (7, AV.i (nil0 z.bf z.rf)), (8, AV.i (one z.bf)), (9, AV.i (z.ra)), (10, AV.i (z.ba)), (19, .agg [AV.i z.rf, AV.i z.bf, AV.i z.ra, AV.i z.ba]), (20, x20), (21, x21), (25, x25), (36, x36), (38, .any)], H ++ [some (stL z)]⟩) ?_ ?_
  ·
   refine at_seq rfl ?_
   refine rg rfl ?_
   refine Rq ?_
   refine Rq ?_
   have tr : ∀ a b c d e f g h i j k m n o p q r s : AV, let l := lc_rate_ok a b c d e f g h i j k m n o p q; trim ((36,s)::(35,r)::l) l = lc_rate_ok a b c d e f g h i j k m n o s q := by intros; rfl
   refine R_nil (tr ..) ?_; clear tr
   refine then_n ?_
   refine cdd (fun h3 => ?_) (fun h3 => ?_)
   ·
    try simp only [decide_eq_true_eq, decide_eq_false_iff_not, decide_eq_decide, Bool.not_eq_true', Bool.not_eq_false', beq_iff_eq, beq_eq_false_iff_ne, ne_eq, Bool.and_eq_true, Bool.and_eq_false_iff, decide_not] at h3
    refine rg rfl ?_
    refine Rq ?_
    refine Rq ?_
    have tr : ∀ a b c d e f g h i j k m n o p q r s : AV, let l := lc_rate_ok a b c d e f g h i j k m n o p q; trim ((8,s)::(7,r)::l) l = lc_rate_ok a b c d e f r s i j k m n o p q := by intros; rfl
    refine R_nil (tr ..) ?_; clear tr
    refine then_n ?_
    exact ⟨_, _, _, _, _, _, _, _, by first | (rw [nil0_y (by assumption : z.bf = 0), one_y (by assumption : z.bf = 0)]) | (rw [nil0_n (by assumption : ¬ z.bf = 0), one_n (by assumption : ¬ z.bf = 0)])⟩
   ·
    try simp only [decide_eq_true_eq, decide_eq_false_iff_not, decide_eq_decide, Bool.not_eq_true', Bool.not_eq_false', beq_iff_eq, beq_eq_false_iff_ne, ne_eq, Bool.and_eq_true, Bool.and_eq_false_iff, decide_not] at h3
    refine at_skip rfl ?_
    refine then_n ?_
    exact ⟨_, _, _, _, _, _, _, _, by first | (rw [nil0_y (by assumption : z.bf = 0), one_y (by assumption : z.bf = 0)]) | (rw [nil0_n (by assumption : ¬ z.bf = 0), one_n (by assumption : ¬ z.bf = 0)])⟩
  ·
   rintro s ⟨x2, x3, x4, x6, x20, x21, x25, x36, rfl⟩
   refine seq_cut rfl (fun s => ∃ x2 x3 x4 x6 x20 x21 x25 x36 x38 : AV, s = ⟨[(0, stA z), (1, .ptr H.length 0), (2, x2), (3, x3), (4, x4), (6, x6), (7, AV.i (nil0 z.bf z.rf)), (8, AV.i (one z.bf)), (9, AV.i (nil0 z.ba z.ra)), (10, AV.i (one z.ba)), (19, .agg [AV.i z.rf, AV.i z.bf, AV.i z.ra, AV.i z.ba]), (20, x20), (21, x21), (25, x25), (36, x36), (38, x38)], H ++ [some (stL z)]⟩) ?_ ?_
   ·
    refine at_seq rfl ?_
    refine rg rfl ?_
    refine Rq ?_
    refine Rq ?_
    have tr : ∀ a b c d e f g h i j k m n o p q r s : AV, let l := lc_rate_ok a b c d e f g h i j k m n o p q; trim ((38,s)::(37,r)::l) l = lc_rate_ok a b c d e f g h i j k m n o p s := by intros; rfl
    refine R_nil (tr ..) ?_; clear tr
    refine then_n ?_
    refine cdd (fun h4 => ?_) (fun h4 => ?_)
    ·
     try simp only [decide_eq_true_eq, decide_eq_false_iff_not, decide_eq_decide, Bool.not_eq_true', Bool.not_eq_false', beq_iff_eq, beq_eq_false_iff_ne, ne_eq, Bool.and_eq_true, Bool.and_eq_false_iff, decide_not] at h4
     refine rg rfl ?_
     refine Rq ?_
     refine Rq ?_
     have tr : ∀ a b c d e f g h i j k m n o p q r s : AV, let l := lc_rate_ok a b c d e f g h i j k m n o p q; trim ((10,s)::(9,r)::l) l = lc_rate_ok a b c d e f g h r s k m n o p q := by intros; rfl
     refine R_nil (tr ..) ?_; clear tr
     refine then_n ?_
     exact ⟨_, _, _, _, _, _, _, _, _, by first | (rw [nil0_y (by assumption : z.ba = 0), one_y (by assumption : z.ba = 0)]) | (rw [nil0_n (by assumption : ¬ z.ba = 0), one_n (by assumption : ¬ z.ba = 0)])⟩
    ·
     try simp only [decide_eq_true_eq, decide_eq_false_iff_not, decide_eq_decide, Bool.not_eq_true', Bool.not_eq_false', beq_iff_eq, beq_eq_false_iff_ne, ne_eq, Bool.and_eq_true, Bool.and_eq_false_iff, decide_not] at h4
     refine at_skip rfl ?_
     refine then_n ?_
     exact ⟨_, _, _, _, _, _, _, _, _, by first | (rw [nil0_y (by assumption : z.ba = 0), one_y (by assumption : z.ba = 0)]) | (rw [nil0_n (by assumption : ¬ z.ba = 0), one_n (by assumption : ¬ z.ba = 0)])⟩
   ·
    rintro s ⟨x2, x3, x4, x6, x20, x21, x25, x36, x38, rfl⟩
    refine at_seq rfl ?_
    refine rg rfl ?_
    refine Rq ?_
    refine Rq ?_
    refine Rq ?_
    refine Rq ?_
    refine Rq ?_
    refine Rq ?_
    refine Rq ?_
    refine Rq ?_
    refine Rq ?_
    refine Rq ?_
    refine Rq ?_
    refine Rq ?_
    refine Rq ?_
    have tr : ∀ a b c d e f g h i j k m n o p q r s t u v w x y z A B C D : AV, let l := lc_rate_ok a b c d e f g h i j k m n o p q; trim ((4,D)::(3,C)::(2,B)::(48,A)::(47,z)::(46,y)::(45,x)::(44,w)::(43,v)::(42,u)::(41,t)::(40,s)::(39,r)::l) l = lc_rate_ok a b B C D f g h i j k m n o p q := by intros; rfl
    refine R_nil (tr ..) ?_; clear tr
    refine then_n ?_
    refine at_ret rfl ?_
    first | (refine fpure ?_; refine ⟨?_, rfl⟩; rw [rtN_n hno, rtD_n hno, decide_eq_false hno] <;> rfl; done) | (refine fpure ?_; refine ⟨?_, rfl⟩; rw [rtN_y hok, rtD_y hok, decide_eq_true hok] <;> rfl)

end Go.Proofs.Ytdmeioppkannlaa.C
end
section
set_option linter.unusedVariables false
namespace Go.Proofs.Ytdmeioppkannlaa.C
open Go Go.Am
/-! ### The callees that are taken by contract -/
theorem add64_ok (lim : Nat) (H : Heap) (x y c : Int) (h : 0 ≤ x ∧ 0 ≤ y ∧ 0 ≤ c ∧ c ≤ 1) : ACall sig lim 61 [u6 x, u6 y, u6 c] H fun r H' => r = .tup [u6 ((x + y + c) % 18446744073709551616), u6 ((x + y + c) / 18446744073709551616)] ∧ H' = H :=
  ⟨1, _, H, by show Option.map _ (add64V [u6 x, u6 y, u6 c] H) = _; simp only [add64V, if_pos h]; rfl, rfl, rfl⟩
theorem mul64_ok (lim : Nat) (H : Heap) (x y : Int) (h : (0 ≤ x ∧ x ≤ 18446744073709551615) ∧ 0 ≤ y ∧ y ≤ 18446744073709551615) : ACall sig lim 58 [u6 x, u6 y] H fun r H' => r = .tup [u6 (x * y / 18446744073709551616), u6 (x * y % 18446744073709551616)] ∧ H' = H :=
  ⟨1, _, H, by show Option.map _ (mul64V [u6 x, u6 y] H) = _; simp only [mul64V, if_pos h]; rfl, rfl, rfl⟩
end Go.Proofs.Ytdmeioppkannlaa.C
end
section
set_option linter.unusedVariables false
namespace Go.Proofs.Ytdmeioppkannlaa
open Go Go.Am
end Go.Proofs.Ytdmeioppkannlaa
end
