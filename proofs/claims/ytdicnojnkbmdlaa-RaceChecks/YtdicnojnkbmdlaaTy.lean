/-
  What loads, indexing, fields and lengths yield, type by type. Written by program (typack.py).
-/
import Derived.Test.YtdicnojnkbmdlaaSig
import Derived.Test.YtdicnojnkbmdlaaAmT
namespace Go.Proofs.Ytdicnojnkbmdlaa
open Go Go.Am

theorem sigP : sig.P = Try.prog := rfl
theorem ldp1 (H : Heap) (b o : Nat) : loadV Try.prog H 1 (.ptr b o) = (hget H b).bind fun k => k[o]? := by rw [load_ptr _ H 1 _ ty1 b o]; rfl
theorem lde1 (H : Heap) (l : List AV) (o : Nat) : loadV Try.prog H 1 (.ele l o) = l[o]? := by rw [load_ele _ H 1 _ ty1 l o]; rfl
theorem zr1 : (tyOf Try.prog 1).bind (fun ty => ty.zero) = some [.nilFunc] := by rw [ty1]; rfl
theorem ldp2 (H : Heap) (b o : Nat) : loadV Try.prog H 2 (.ptr b o) = (hget H b).bind fun k => k[o]? := by rw [load_ptr _ H 2 _ ty2 b o]; rfl
theorem lde2 (H : Heap) (l : List AV) (o : Nat) : loadV Try.prog H 2 (.ele l o) = l[o]? := by rw [load_ele _ H 2 _ ty2 l o]; rfl
theorem zr2 : (tyOf Try.prog 2).bind (fun ty => ty.zero) = some [.int .i64 0] := by rw [ty2]; rfl
theorem ldp3 (H : Heap) (b o : Nat) : loadV Try.prog H 3 (.ptr b o) = (hget H b).bind fun k => k[o]? := by rw [load_ptr _ H 3 _ ty3 b o]; rfl
theorem lde3 (H : Heap) (l : List AV) (o : Nat) : loadV Try.prog H 3 (.ele l o) = l[o]? := by rw [load_ele _ H 3 _ ty3 l o]; rfl
theorem zr3 : (tyOf Try.prog 3).bind (fun ty => ty.zero) = some [.int .i64 0] := by rw [ty3]; rfl
theorem ldp4 (H : Heap) (b o : Nat) : loadV Try.prog H 4 (.ptr b o) = (hget H b).bind fun k => k[o]? := by rw [load_ptr _ H 4 _ ty4 b o]; rfl
theorem lde4 (H : Heap) (l : List AV) (o : Nat) : loadV Try.prog H 4 (.ele l o) = l[o]? := by rw [load_ele _ H 4 _ ty4 l o]; rfl
theorem zr4 : (tyOf Try.prog 4).bind (fun ty => ty.zero) = some [.bool false] := by rw [ty4]; rfl
theorem beq4 (a b : Bool) : binV Try.prog .eql 4 (.v (.bool a)) (.v (.bool b)) = some (.v (.bool (a == b))) := by simp only [binV, tk4]
theorem bne4 (a b : Bool) : binV Try.prog .neq 4 (.v (.bool a)) (.v (.bool b)) = some (.v (.bool (!(a == b)))) := by simp only [binV, tk4]
theorem ldp5 (H : Heap) (b o : Nat) : loadV Try.prog H 5 (.ptr b o) = (hget H b).bind fun k => k[o]? := by rw [load_ptr _ H 5 _ ty5 b o]; rfl
theorem lde5 (H : Heap) (l : List AV) (o : Nat) : loadV Try.prog H 5 (.ele l o) = l[o]? := by rw [load_ele _ H 5 _ ty5 l o]; rfl
theorem zr5 : (tyOf Try.prog 5).bind (fun ty => ty.zero) = some [.int .u8 0] := by rw [ty5]; rfl
theorem ldp9 (H : Heap) (b o : Nat) : loadV Try.prog H 9 (.ptr b o) = (hget H b).bind fun k => k[o]? := by rw [load_ptr _ H 9 _ ty9 b o]; rfl
theorem lde9 (H : Heap) (l : List AV) (o : Nat) : loadV Try.prog H 9 (.ele l o) = l[o]? := by rw [load_ele _ H 9 _ ty9 l o]; rfl
theorem zr9 : (tyOf Try.prog 9).bind (fun ty => ty.zero) = some [.string ⟨#[]⟩] := by rw [ty9]; rfl
theorem lnt9 (s : ByteArray) : lenV (tyOf Try.prog 9) (.v (.string s)) = some (.v (.int .i64 s.size)) := by rw [ty9]; exact len_str _ _ rfl
theorem ldp22 (H : Heap) (b o : Nat) : loadV Try.prog H 22 (.ptr b o) = (hget H b).bind fun k => k[o]? := by rw [load_ptr _ H 22 _ ty22 b o]; rfl
theorem lde22 (H : Heap) (l : List AV) (o : Nat) : loadV Try.prog H 22 (.ele l o) = l[o]? := by rw [load_ele _ H 22 _ ty22 l o]; rfl
theorem zr22 : (tyOf Try.prog 22).bind (fun ty => ty.zero) = some [.slice none 0 0] := by rw [ty22]; rfl
theorem ias22 (n : Nat) (l : List AV) (k : IntKind) (i : Int) (h0 : 0 ≤ i) (h1 : i < n) : indexAddrV Try.prog 22 (.sl n l) (.v (.int k i)) = some (.ele l (i.toNat * 3)) := by rw [ia_sl _ 22 66 _ tk22 ty66, if_pos ⟨h0, h1⟩]
theorem iao22 (z b o n : Nat) (k : IntKind) (i : Int) (h0 : 0 ≤ i) (h1 : i < n) : indexAddrV Try.prog 22 (.own z b o n) (.v (.int k i)) = some (.ptr b (o + i.toNat * 3)) := by rw [ia_own _ 22 66 _ tk22 ty66, if_pos ⟨h0, h1⟩]
theorem lns22 (n : Nat) (l : List AV) : lenV (tyOf Try.prog 22) (.sl n l) = some (.v (.int .i64 n)) := by rw [ty22]; exact len_sl _ 66 _ _ rfl
theorem lno22 (z b o n : Nat) : lenV (tyOf Try.prog 22) (.own z b o n) = some (.v (.int .i64 n)) := by rw [ty22]; exact len_own _ 66 _ _ _ _ rfl
theorem lnn22 (n : Nat) : lenV (tyOf Try.prog 22) (.v (.slice none n 0)) = some (.v (.int .i64 n)) := by rw [ty22]; exact len_nil _ 66 _ rfl
theorem ldp24 (H : Heap) (b o : Nat) : loadV Try.prog H 24 (.ptr b o) = (hget H b).bind fun k => partL { size := 4, bytes := 48, agg := true, k := .struct [(0, 3), (1, 3), (2, 3), (3, 22)], zero := some [.int .i64 0, .int .i64 0, .int .i64 0, .slice none 0 0] } k o := load_ptr _ H 24 _ ty24 b o
theorem lde24 (H : Heap) (l : List AV) (o : Nat) : loadV Try.prog H 24 (.ele l o) = partL { size := 4, bytes := 48, agg := true, k := .struct [(0, 3), (1, 3), (2, 3), (3, 22)], zero := some [.int .i64 0, .int .i64 0, .int .i64 0, .slice none 0 0] } l o := load_ele _ H 24 _ ty24 l o
theorem pl24 (l : List AV) (o : Nat) (h : o + 4 ≤ l.length) : partL { size := 4, bytes := 48, agg := true, k := .struct [(0, 3), (1, 3), (2, 3), (3, 22)], zero := some [.int .i64 0, .int .i64 0, .int .i64 0, .slice none 0 0] } l o = some (.agg ((l.drop o).take 4)) := by rw [partL_agg _ _ _ rfl, if_pos h]
theorem zr24 : (tyOf Try.prog 24).bind (fun ty => ty.zero) = some [.int .i64 0, .int .i64 0, .int .i64 0, .slice none 0 0] := by rw [ty24]; rfl
theorem fap24_0 (b o : Nat) : fieldAddrV Try.prog 24 (.ptr b o) 0 = some (.ptr b (o)) := fa_ptr _ 24 _ tk24 b o 0 0 3 _ rfl ty3 (by decide)
theorem fae24_0 (l : List AV) (o : Nat) : fieldAddrV Try.prog 24 (.ele l o) 0 = some (.ele l (o)) := fa_ele _ 24 _ tk24 l o 0 0 3 _ rfl ty3 (by decide)
theorem fd24_0 (l : List AV) : fieldV Try.prog 24 (.agg l) 0 = l[0]? := by rw [fd_agg _ 24 _ tk24 l 0 0 3 _ rfl ty3]; rfl
theorem fap24_1 (b o : Nat) : fieldAddrV Try.prog 24 (.ptr b o) 1 = some (.ptr b (o + 1)) := fa_ptr _ 24 _ tk24 b o 1 1 3 _ rfl ty3 (by decide)
theorem fae24_1 (l : List AV) (o : Nat) : fieldAddrV Try.prog 24 (.ele l o) 1 = some (.ele l (o + 1)) := fa_ele _ 24 _ tk24 l o 1 1 3 _ rfl ty3 (by decide)
theorem fd24_1 (l : List AV) : fieldV Try.prog 24 (.agg l) 1 = l[1]? := by rw [fd_agg _ 24 _ tk24 l 1 1 3 _ rfl ty3]; rfl
theorem fap24_2 (b o : Nat) : fieldAddrV Try.prog 24 (.ptr b o) 2 = some (.ptr b (o + 2)) := fa_ptr _ 24 _ tk24 b o 2 2 3 _ rfl ty3 (by decide)
theorem fae24_2 (l : List AV) (o : Nat) : fieldAddrV Try.prog 24 (.ele l o) 2 = some (.ele l (o + 2)) := fa_ele _ 24 _ tk24 l o 2 2 3 _ rfl ty3 (by decide)
theorem fd24_2 (l : List AV) : fieldV Try.prog 24 (.agg l) 2 = l[2]? := by rw [fd_agg _ 24 _ tk24 l 2 2 3 _ rfl ty3]; rfl
theorem fap24_3 (b o : Nat) : fieldAddrV Try.prog 24 (.ptr b o) 3 = some (.ptr b (o + 3)) := fa_ptr _ 24 _ tk24 b o 3 3 22 _ rfl ty22 (by decide)
theorem fae24_3 (l : List AV) (o : Nat) : fieldAddrV Try.prog 24 (.ele l o) 3 = some (.ele l (o + 3)) := fa_ele _ 24 _ tk24 l o 3 3 22 _ rfl ty22 (by decide)
theorem fd24_3 (l : List AV) : fieldV Try.prog 24 (.agg l) 3 = l[3]? := by rw [fd_agg _ 24 _ tk24 l 3 3 22 _ rfl ty22]; rfl
theorem ldp27 (H : Heap) (b o : Nat) : loadV Try.prog H 27 (.ptr b o) = (hget H b).bind fun k => k[o]? := by rw [load_ptr _ H 27 _ ty27 b o]; rfl
theorem lde27 (H : Heap) (l : List AV) (o : Nat) : loadV Try.prog H 27 (.ele l o) = l[o]? := by rw [load_ele _ H 27 _ ty27 l o]; rfl
theorem zr27 : (tyOf Try.prog 27).bind (fun ty => ty.zero) = some [.slice none 0 0] := by rw [ty27]; rfl
theorem ias27 (n : Nat) (l : List AV) (k : IntKind) (i : Int) (h0 : 0 ≤ i) (h1 : i < n) : indexAddrV Try.prog 27 (.sl n l) (.v (.int k i)) = some (.ele l (i.toNat)) := by rw [ia_sl _ 27 2 _ tk27 ty2, if_pos ⟨h0, h1⟩]; rw [Nat.mul_one]
theorem iao27 (z b o n : Nat) (k : IntKind) (i : Int) (h0 : 0 ≤ i) (h1 : i < n) : indexAddrV Try.prog 27 (.own z b o n) (.v (.int k i)) = some (.ptr b (o + i.toNat)) := by rw [ia_own _ 27 2 _ tk27 ty2, if_pos ⟨h0, h1⟩]; rw [Nat.mul_one]
theorem lns27 (n : Nat) (l : List AV) : lenV (tyOf Try.prog 27) (.sl n l) = some (.v (.int .i64 n)) := by rw [ty27]; exact len_sl _ 2 _ _ rfl
theorem lno27 (z b o n : Nat) : lenV (tyOf Try.prog 27) (.own z b o n) = some (.v (.int .i64 n)) := by rw [ty27]; exact len_own _ 2 _ _ _ _ rfl
theorem lnn27 (n : Nat) : lenV (tyOf Try.prog 27) (.v (.slice none n 0)) = some (.v (.int .i64 n)) := by rw [ty27]; exact len_nil _ 2 _ rfl
theorem ldp28 (H : Heap) (b o : Nat) : loadV Try.prog H 28 (.ptr b o) = (hget H b).bind fun k => k[o]? := by rw [load_ptr _ H 28 _ ty28 b o]; rfl
theorem lde28 (H : Heap) (l : List AV) (o : Nat) : loadV Try.prog H 28 (.ele l o) = l[o]? := by rw [load_ele _ H 28 _ ty28 l o]; rfl
theorem zr28 : (tyOf Try.prog 28).bind (fun ty => ty.zero) = some [.slice none 0 0] := by rw [ty28]; rfl
theorem ias28 (n : Nat) (l : List AV) (k : IntKind) (i : Int) (h0 : 0 ≤ i) (h1 : i < n) : indexAddrV Try.prog 28 (.sl n l) (.v (.int k i)) = some (.ele l (i.toNat)) := by rw [ia_sl _ 28 4 _ tk28 ty4, if_pos ⟨h0, h1⟩]; rw [Nat.mul_one]
theorem iao28 (z b o n : Nat) (k : IntKind) (i : Int) (h0 : 0 ≤ i) (h1 : i < n) : indexAddrV Try.prog 28 (.own z b o n) (.v (.int k i)) = some (.ptr b (o + i.toNat)) := by rw [ia_own _ 28 4 _ tk28 ty4, if_pos ⟨h0, h1⟩]; rw [Nat.mul_one]
theorem lns28 (n : Nat) (l : List AV) : lenV (tyOf Try.prog 28) (.sl n l) = some (.v (.int .i64 n)) := by rw [ty28]; exact len_sl _ 4 _ _ rfl
theorem lno28 (z b o n : Nat) : lenV (tyOf Try.prog 28) (.own z b o n) = some (.v (.int .i64 n)) := by rw [ty28]; exact len_own _ 4 _ _ _ _ rfl
theorem lnn28 (n : Nat) : lenV (tyOf Try.prog 28) (.v (.slice none n 0)) = some (.v (.int .i64 n)) := by rw [ty28]; exact len_nil _ 4 _ rfl
theorem ldp29 (H : Heap) (b o : Nat) : loadV Try.prog H 29 (.ptr b o) = (hget H b).bind fun k => k[o]? := by rw [load_ptr _ H 29 _ ty29 b o]; rfl
theorem lde29 (H : Heap) (l : List AV) (o : Nat) : loadV Try.prog H 29 (.ele l o) = l[o]? := by rw [load_ele _ H 29 _ ty29 l o]; rfl
theorem zr29 : (tyOf Try.prog 29).bind (fun ty => ty.zero) = some [.int .i64 0] := by rw [ty29]; rfl
theorem ldp40 (H : Heap) (b o : Nat) : loadV Try.prog H 40 (.ptr b o) = (hget H b).bind fun k => k[o]? := by rw [load_ptr _ H 40 _ ty40 b o]; rfl
theorem lde40 (H : Heap) (l : List AV) (o : Nat) : loadV Try.prog H 40 (.ele l o) = l[o]? := by rw [load_ele _ H 40 _ ty40 l o]; rfl
theorem zr40 : (tyOf Try.prog 40).bind (fun ty => ty.zero) = some [.slice none 0 0] := by rw [ty40]; rfl
theorem ias40 (n : Nat) (l : List AV) (k : IntKind) (i : Int) (h0 : 0 ≤ i) (h1 : i < n) : indexAddrV Try.prog 40 (.sl n l) (.v (.int k i)) = some (.ele l (i.toNat)) := by rw [ia_sl _ 40 3 _ tk40 ty3, if_pos ⟨h0, h1⟩]; rw [Nat.mul_one]
theorem iao40 (z b o n : Nat) (k : IntKind) (i : Int) (h0 : 0 ≤ i) (h1 : i < n) : indexAddrV Try.prog 40 (.own z b o n) (.v (.int k i)) = some (.ptr b (o + i.toNat)) := by rw [ia_own _ 40 3 _ tk40 ty3, if_pos ⟨h0, h1⟩]; rw [Nat.mul_one]
theorem lns40 (n : Nat) (l : List AV) : lenV (tyOf Try.prog 40) (.sl n l) = some (.v (.int .i64 n)) := by rw [ty40]; exact len_sl _ 3 _ _ rfl
theorem lno40 (z b o n : Nat) : lenV (tyOf Try.prog 40) (.own z b o n) = some (.v (.int .i64 n)) := by rw [ty40]; exact len_own _ 3 _ _ _ _ rfl
theorem lnn40 (n : Nat) : lenV (tyOf Try.prog 40) (.v (.slice none n 0)) = some (.v (.int .i64 n)) := by rw [ty40]; exact len_nil _ 3 _ rfl
theorem ldp41 (H : Heap) (b o : Nat) : loadV Try.prog H 41 (.ptr b o) = (hget H b).bind fun k => k[o]? := by rw [load_ptr _ H 41 _ ty41 b o]; rfl
theorem lde41 (H : Heap) (l : List AV) (o : Nat) : loadV Try.prog H 41 (.ele l o) = l[o]? := by rw [load_ele _ H 41 _ ty41 l o]; rfl
theorem zr41 : (tyOf Try.prog 41).bind (fun ty => ty.zero) = some [.slice none 0 0] := by rw [ty41]; rfl
theorem ias41 (n : Nat) (l : List AV) (k : IntKind) (i : Int) (h0 : 0 ≤ i) (h1 : i < n) : indexAddrV Try.prog 41 (.sl n l) (.v (.int k i)) = some (.ele l (i.toNat * 2)) := by rw [ia_sl _ 41 58 _ tk41 ty58, if_pos ⟨h0, h1⟩]
theorem iao41 (z b o n : Nat) (k : IntKind) (i : Int) (h0 : 0 ≤ i) (h1 : i < n) : indexAddrV Try.prog 41 (.own z b o n) (.v (.int k i)) = some (.ptr b (o + i.toNat * 2)) := by rw [ia_own _ 41 58 _ tk41 ty58, if_pos ⟨h0, h1⟩]
theorem lns41 (n : Nat) (l : List AV) : lenV (tyOf Try.prog 41) (.sl n l) = some (.v (.int .i64 n)) := by rw [ty41]; exact len_sl _ 58 _ _ rfl
theorem lno41 (z b o n : Nat) : lenV (tyOf Try.prog 41) (.own z b o n) = some (.v (.int .i64 n)) := by rw [ty41]; exact len_own _ 58 _ _ _ _ rfl
theorem lnn41 (n : Nat) : lenV (tyOf Try.prog 41) (.v (.slice none n 0)) = some (.v (.int .i64 n)) := by rw [ty41]; exact len_nil _ 58 _ rfl
theorem ldp43 (H : Heap) (b o : Nat) : loadV Try.prog H 43 (.ptr b o) = (hget H b).bind fun k => partL { size := 2, bytes := 48, agg := true, k := .struct [(0, 40), (1, 41)], zero := some [.slice none 0 0, .slice none 0 0] } k o := load_ptr _ H 43 _ ty43 b o
theorem lde43 (H : Heap) (l : List AV) (o : Nat) : loadV Try.prog H 43 (.ele l o) = partL { size := 2, bytes := 48, agg := true, k := .struct [(0, 40), (1, 41)], zero := some [.slice none 0 0, .slice none 0 0] } l o := load_ele _ H 43 _ ty43 l o
theorem pl43 (l : List AV) (o : Nat) (h : o + 2 ≤ l.length) : partL { size := 2, bytes := 48, agg := true, k := .struct [(0, 40), (1, 41)], zero := some [.slice none 0 0, .slice none 0 0] } l o = some (.agg ((l.drop o).take 2)) := by rw [partL_agg _ _ _ rfl, if_pos h]
theorem zr43 : (tyOf Try.prog 43).bind (fun ty => ty.zero) = some [.slice none 0 0, .slice none 0 0] := by rw [ty43]; rfl
theorem fap43_0 (b o : Nat) : fieldAddrV Try.prog 43 (.ptr b o) 0 = some (.ptr b (o)) := fa_ptr _ 43 _ tk43 b o 0 0 40 _ rfl ty40 (by decide)
theorem fae43_0 (l : List AV) (o : Nat) : fieldAddrV Try.prog 43 (.ele l o) 0 = some (.ele l (o)) := fa_ele _ 43 _ tk43 l o 0 0 40 _ rfl ty40 (by decide)
theorem fd43_0 (l : List AV) : fieldV Try.prog 43 (.agg l) 0 = l[0]? := by rw [fd_agg _ 43 _ tk43 l 0 0 40 _ rfl ty40]; rfl
theorem fap43_1 (b o : Nat) : fieldAddrV Try.prog 43 (.ptr b o) 1 = some (.ptr b (o + 1)) := fa_ptr _ 43 _ tk43 b o 1 1 41 _ rfl ty41 (by decide)
theorem fae43_1 (l : List AV) (o : Nat) : fieldAddrV Try.prog 43 (.ele l o) 1 = some (.ele l (o + 1)) := fa_ele _ 43 _ tk43 l o 1 1 41 _ rfl ty41 (by decide)
theorem fd43_1 (l : List AV) : fieldV Try.prog 43 (.agg l) 1 = l[1]? := by rw [fd_agg _ 43 _ tk43 l 1 1 41 _ rfl ty41]; rfl
theorem ldp46 (H : Heap) (b o : Nat) : loadV Try.prog H 46 (.ptr b o) = (hget H b).bind fun k => partL { size := 3, bytes := 56, agg := true, k := .struct [(0, 4), (1, 40), (2, 40)], zero := some [.bool false, .slice none 0 0, .slice none 0 0] } k o := load_ptr _ H 46 _ ty46 b o
theorem lde46 (H : Heap) (l : List AV) (o : Nat) : loadV Try.prog H 46 (.ele l o) = partL { size := 3, bytes := 56, agg := true, k := .struct [(0, 4), (1, 40), (2, 40)], zero := some [.bool false, .slice none 0 0, .slice none 0 0] } l o := load_ele _ H 46 _ ty46 l o
theorem pl46 (l : List AV) (o : Nat) (h : o + 3 ≤ l.length) : partL { size := 3, bytes := 56, agg := true, k := .struct [(0, 4), (1, 40), (2, 40)], zero := some [.bool false, .slice none 0 0, .slice none 0 0] } l o = some (.agg ((l.drop o).take 3)) := by rw [partL_agg _ _ _ rfl, if_pos h]
theorem zr46 : (tyOf Try.prog 46).bind (fun ty => ty.zero) = some [.bool false, .slice none 0 0, .slice none 0 0] := by rw [ty46]; rfl
theorem fap46_0 (b o : Nat) : fieldAddrV Try.prog 46 (.ptr b o) 0 = some (.ptr b (o)) := fa_ptr _ 46 _ tk46 b o 0 0 4 _ rfl ty4 (by decide)
theorem fae46_0 (l : List AV) (o : Nat) : fieldAddrV Try.prog 46 (.ele l o) 0 = some (.ele l (o)) := fa_ele _ 46 _ tk46 l o 0 0 4 _ rfl ty4 (by decide)
theorem fd46_0 (l : List AV) : fieldV Try.prog 46 (.agg l) 0 = l[0]? := by rw [fd_agg _ 46 _ tk46 l 0 0 4 _ rfl ty4]; rfl
theorem fap46_1 (b o : Nat) : fieldAddrV Try.prog 46 (.ptr b o) 1 = some (.ptr b (o + 1)) := fa_ptr _ 46 _ tk46 b o 1 1 40 _ rfl ty40 (by decide)
theorem fae46_1 (l : List AV) (o : Nat) : fieldAddrV Try.prog 46 (.ele l o) 1 = some (.ele l (o + 1)) := fa_ele _ 46 _ tk46 l o 1 1 40 _ rfl ty40 (by decide)
theorem fd46_1 (l : List AV) : fieldV Try.prog 46 (.agg l) 1 = l[1]? := by rw [fd_agg _ 46 _ tk46 l 1 1 40 _ rfl ty40]; rfl
theorem fap46_2 (b o : Nat) : fieldAddrV Try.prog 46 (.ptr b o) 2 = some (.ptr b (o + 2)) := fa_ptr _ 46 _ tk46 b o 2 2 40 _ rfl ty40 (by decide)
theorem fae46_2 (l : List AV) (o : Nat) : fieldAddrV Try.prog 46 (.ele l o) 2 = some (.ele l (o + 2)) := fa_ele _ 46 _ tk46 l o 2 2 40 _ rfl ty40 (by decide)
theorem fd46_2 (l : List AV) : fieldV Try.prog 46 (.agg l) 2 = l[2]? := by rw [fd_agg _ 46 _ tk46 l 2 2 40 _ rfl ty40]; rfl
theorem ldp58 (H : Heap) (b o : Nat) : loadV Try.prog H 58 (.ptr b o) = (hget H b).bind fun k => partL { size := 2, bytes := 16, agg := true, k := .array 2 3, zero := some [.int .i64 0, .int .i64 0] } k o := load_ptr _ H 58 _ ty58 b o
theorem lde58 (H : Heap) (l : List AV) (o : Nat) : loadV Try.prog H 58 (.ele l o) = partL { size := 2, bytes := 16, agg := true, k := .array 2 3, zero := some [.int .i64 0, .int .i64 0] } l o := load_ele _ H 58 _ ty58 l o
theorem pl58 (l : List AV) (o : Nat) (h : o + 2 ≤ l.length) : partL { size := 2, bytes := 16, agg := true, k := .array 2 3, zero := some [.int .i64 0, .int .i64 0] } l o = some (.agg ((l.drop o).take 2)) := by rw [partL_agg _ _ _ rfl, if_pos h]
theorem zr58 : (tyOf Try.prog 58).bind (fun ty => ty.zero) = some [.int .i64 0, .int .i64 0] := by rw [ty58]; rfl
theorem ldp66 (H : Heap) (b o : Nat) : loadV Try.prog H 66 (.ptr b o) = (hget H b).bind fun k => partL { size := 3, bytes := 24, agg := true, k := .struct [(0, 3), (1, 3), (2, 2)], zero := some [.int .i64 0, .int .i64 0, .int .i64 0] } k o := load_ptr _ H 66 _ ty66 b o
theorem lde66 (H : Heap) (l : List AV) (o : Nat) : loadV Try.prog H 66 (.ele l o) = partL { size := 3, bytes := 24, agg := true, k := .struct [(0, 3), (1, 3), (2, 2)], zero := some [.int .i64 0, .int .i64 0, .int .i64 0] } l o := load_ele _ H 66 _ ty66 l o
theorem pl66 (l : List AV) (o : Nat) (h : o + 3 ≤ l.length) : partL { size := 3, bytes := 24, agg := true, k := .struct [(0, 3), (1, 3), (2, 2)], zero := some [.int .i64 0, .int .i64 0, .int .i64 0] } l o = some (.agg ((l.drop o).take 3)) := by rw [partL_agg _ _ _ rfl, if_pos h]
theorem zr66 : (tyOf Try.prog 66).bind (fun ty => ty.zero) = some [.int .i64 0, .int .i64 0, .int .i64 0] := by rw [ty66]; rfl
theorem fap66_0 (b o : Nat) : fieldAddrV Try.prog 66 (.ptr b o) 0 = some (.ptr b (o)) := fa_ptr _ 66 _ tk66 b o 0 0 3 _ rfl ty3 (by decide)
theorem fae66_0 (l : List AV) (o : Nat) : fieldAddrV Try.prog 66 (.ele l o) 0 = some (.ele l (o)) := fa_ele _ 66 _ tk66 l o 0 0 3 _ rfl ty3 (by decide)
theorem fd66_0 (l : List AV) : fieldV Try.prog 66 (.agg l) 0 = l[0]? := by rw [fd_agg _ 66 _ tk66 l 0 0 3 _ rfl ty3]; rfl
theorem fap66_1 (b o : Nat) : fieldAddrV Try.prog 66 (.ptr b o) 1 = some (.ptr b (o + 1)) := fa_ptr _ 66 _ tk66 b o 1 1 3 _ rfl ty3 (by decide)
theorem fae66_1 (l : List AV) (o : Nat) : fieldAddrV Try.prog 66 (.ele l o) 1 = some (.ele l (o + 1)) := fa_ele _ 66 _ tk66 l o 1 1 3 _ rfl ty3 (by decide)
theorem fd66_1 (l : List AV) : fieldV Try.prog 66 (.agg l) 1 = l[1]? := by rw [fd_agg _ 66 _ tk66 l 1 1 3 _ rfl ty3]; rfl
theorem fap66_2 (b o : Nat) : fieldAddrV Try.prog 66 (.ptr b o) 2 = some (.ptr b (o + 2)) := fa_ptr _ 66 _ tk66 b o 2 2 2 _ rfl ty2 (by decide)
theorem fae66_2 (l : List AV) (o : Nat) : fieldAddrV Try.prog 66 (.ele l o) 2 = some (.ele l (o + 2)) := fa_ele _ 66 _ tk66 l o 2 2 2 _ rfl ty2 (by decide)
theorem fd66_2 (l : List AV) : fieldV Try.prog 66 (.agg l) 2 = l[2]? := by rw [fd_agg _ 66 _ tk66 l 2 2 2 _ rfl ty2]; rfl
theorem ldp67 (H : Heap) (b o : Nat) : loadV Try.prog H 67 (.ptr b o) = (hget H b).bind fun k => k[o]? := by rw [load_ptr _ H 67 _ ty67 b o]; rfl
theorem lde67 (H : Heap) (l : List AV) (o : Nat) : loadV Try.prog H 67 (.ele l o) = l[o]? := by rw [load_ele _ H 67 _ ty67 l o]; rfl
theorem zr67 : (tyOf Try.prog 67).bind (fun ty => ty.zero) = some [.slice none 0 0] := by rw [ty67]; rfl
theorem ias67 (n : Nat) (l : List AV) (k : IntKind) (i : Int) (h0 : 0 ≤ i) (h1 : i < n) : indexAddrV Try.prog 67 (.sl n l) (.v (.int k i)) = some (.ele l (i.toNat * 2)) := by rw [ia_sl _ 67 71 _ tk67 ty71, if_pos ⟨h0, h1⟩]
theorem iao67 (z b o n : Nat) (k : IntKind) (i : Int) (h0 : 0 ≤ i) (h1 : i < n) : indexAddrV Try.prog 67 (.own z b o n) (.v (.int k i)) = some (.ptr b (o + i.toNat * 2)) := by rw [ia_own _ 67 71 _ tk67 ty71, if_pos ⟨h0, h1⟩]
theorem lns67 (n : Nat) (l : List AV) : lenV (tyOf Try.prog 67) (.sl n l) = some (.v (.int .i64 n)) := by rw [ty67]; exact len_sl _ 71 _ _ rfl
theorem lno67 (z b o n : Nat) : lenV (tyOf Try.prog 67) (.own z b o n) = some (.v (.int .i64 n)) := by rw [ty67]; exact len_own _ 71 _ _ _ _ rfl
theorem lnn67 (n : Nat) : lenV (tyOf Try.prog 67) (.v (.slice none n 0)) = some (.v (.int .i64 n)) := by rw [ty67]; exact len_nil _ 71 _ rfl
theorem ldp71 (H : Heap) (b o : Nat) : loadV Try.prog H 71 (.ptr b o) = (hget H b).bind fun k => partL { size := 2, bytes := 16, agg := true, k := .struct [(0, 3), (1, 4)], zero := some [.int .i64 0, .bool false] } k o := load_ptr _ H 71 _ ty71 b o
theorem lde71 (H : Heap) (l : List AV) (o : Nat) : loadV Try.prog H 71 (.ele l o) = partL { size := 2, bytes := 16, agg := true, k := .struct [(0, 3), (1, 4)], zero := some [.int .i64 0, .bool false] } l o := load_ele _ H 71 _ ty71 l o
theorem pl71 (l : List AV) (o : Nat) (h : o + 2 ≤ l.length) : partL { size := 2, bytes := 16, agg := true, k := .struct [(0, 3), (1, 4)], zero := some [.int .i64 0, .bool false] } l o = some (.agg ((l.drop o).take 2)) := by rw [partL_agg _ _ _ rfl, if_pos h]
theorem zr71 : (tyOf Try.prog 71).bind (fun ty => ty.zero) = some [.int .i64 0, .bool false] := by rw [ty71]; rfl
theorem fap71_0 (b o : Nat) : fieldAddrV Try.prog 71 (.ptr b o) 0 = some (.ptr b (o)) := fa_ptr _ 71 _ tk71 b o 0 0 3 _ rfl ty3 (by decide)
theorem fae71_0 (l : List AV) (o : Nat) : fieldAddrV Try.prog 71 (.ele l o) 0 = some (.ele l (o)) := fa_ele _ 71 _ tk71 l o 0 0 3 _ rfl ty3 (by decide)
theorem fd71_0 (l : List AV) : fieldV Try.prog 71 (.agg l) 0 = l[0]? := by rw [fd_agg _ 71 _ tk71 l 0 0 3 _ rfl ty3]; rfl
theorem fap71_1 (b o : Nat) : fieldAddrV Try.prog 71 (.ptr b o) 1 = some (.ptr b (o + 1)) := fa_ptr _ 71 _ tk71 b o 1 1 4 _ rfl ty4 (by decide)
theorem fae71_1 (l : List AV) (o : Nat) : fieldAddrV Try.prog 71 (.ele l o) 1 = some (.ele l (o + 1)) := fa_ele _ 71 _ tk71 l o 1 1 4 _ rfl ty4 (by decide)
theorem fd71_1 (l : List AV) : fieldV Try.prog 71 (.agg l) 1 = l[1]? := by rw [fd_agg _ 71 _ tk71 l 1 1 4 _ rfl ty4]; rfl
theorem ldp78 (H : Heap) (b o : Nat) : loadV Try.prog H 78 (.ptr b o) = (hget H b).bind fun k => k[o]? := by rw [load_ptr _ H 78 _ ty78 b o]; rfl
theorem lde78 (H : Heap) (l : List AV) (o : Nat) : loadV Try.prog H 78 (.ele l o) = l[o]? := by rw [load_ele _ H 78 _ ty78 l o]; rfl
theorem zr78 : (tyOf Try.prog 78).bind (fun ty => ty.zero) = some [.slice none 0 0] := by rw [ty78]; rfl
theorem ias78 (n : Nat) (l : List AV) (k : IntKind) (i : Int) (h0 : 0 ≤ i) (h1 : i < n) : indexAddrV Try.prog 78 (.sl n l) (.v (.int k i)) = some (.ele l (i.toNat * 3)) := by rw [ia_sl _ 78 93 _ tk78 ty93, if_pos ⟨h0, h1⟩]
theorem iao78 (z b o n : Nat) (k : IntKind) (i : Int) (h0 : 0 ≤ i) (h1 : i < n) : indexAddrV Try.prog 78 (.own z b o n) (.v (.int k i)) = some (.ptr b (o + i.toNat * 3)) := by rw [ia_own _ 78 93 _ tk78 ty93, if_pos ⟨h0, h1⟩]
theorem lns78 (n : Nat) (l : List AV) : lenV (tyOf Try.prog 78) (.sl n l) = some (.v (.int .i64 n)) := by rw [ty78]; exact len_sl _ 93 _ _ rfl
theorem lno78 (z b o n : Nat) : lenV (tyOf Try.prog 78) (.own z b o n) = some (.v (.int .i64 n)) := by rw [ty78]; exact len_own _ 93 _ _ _ _ rfl
theorem lnn78 (n : Nat) : lenV (tyOf Try.prog 78) (.v (.slice none n 0)) = some (.v (.int .i64 n)) := by rw [ty78]; exact len_nil _ 93 _ rfl
theorem ldp93 (H : Heap) (b o : Nat) : loadV Try.prog H 93 (.ptr b o) = (hget H b).bind fun k => partL { size := 3, bytes := 24, agg := true, k := .struct [(0, 3), (1, 3), (2, 3)], zero := some [.int .i64 0, .int .i64 0, .int .i64 0] } k o := load_ptr _ H 93 _ ty93 b o
theorem lde93 (H : Heap) (l : List AV) (o : Nat) : loadV Try.prog H 93 (.ele l o) = partL { size := 3, bytes := 24, agg := true, k := .struct [(0, 3), (1, 3), (2, 3)], zero := some [.int .i64 0, .int .i64 0, .int .i64 0] } l o := load_ele _ H 93 _ ty93 l o
theorem pl93 (l : List AV) (o : Nat) (h : o + 3 ≤ l.length) : partL { size := 3, bytes := 24, agg := true, k := .struct [(0, 3), (1, 3), (2, 3)], zero := some [.int .i64 0, .int .i64 0, .int .i64 0] } l o = some (.agg ((l.drop o).take 3)) := by rw [partL_agg _ _ _ rfl, if_pos h]
theorem zr93 : (tyOf Try.prog 93).bind (fun ty => ty.zero) = some [.int .i64 0, .int .i64 0, .int .i64 0] := by rw [ty93]; rfl
theorem fap93_0 (b o : Nat) : fieldAddrV Try.prog 93 (.ptr b o) 0 = some (.ptr b (o)) := fa_ptr _ 93 _ tk93 b o 0 0 3 _ rfl ty3 (by decide)
theorem fae93_0 (l : List AV) (o : Nat) : fieldAddrV Try.prog 93 (.ele l o) 0 = some (.ele l (o)) := fa_ele _ 93 _ tk93 l o 0 0 3 _ rfl ty3 (by decide)
theorem fd93_0 (l : List AV) : fieldV Try.prog 93 (.agg l) 0 = l[0]? := by rw [fd_agg _ 93 _ tk93 l 0 0 3 _ rfl ty3]; rfl
theorem fap93_1 (b o : Nat) : fieldAddrV Try.prog 93 (.ptr b o) 1 = some (.ptr b (o + 1)) := fa_ptr _ 93 _ tk93 b o 1 1 3 _ rfl ty3 (by decide)
theorem fae93_1 (l : List AV) (o : Nat) : fieldAddrV Try.prog 93 (.ele l o) 1 = some (.ele l (o + 1)) := fa_ele _ 93 _ tk93 l o 1 1 3 _ rfl ty3 (by decide)
theorem fd93_1 (l : List AV) : fieldV Try.prog 93 (.agg l) 1 = l[1]? := by rw [fd_agg _ 93 _ tk93 l 1 1 3 _ rfl ty3]; rfl
theorem fap93_2 (b o : Nat) : fieldAddrV Try.prog 93 (.ptr b o) 2 = some (.ptr b (o + 2)) := fa_ptr _ 93 _ tk93 b o 2 2 3 _ rfl ty3 (by decide)
theorem fae93_2 (l : List AV) (o : Nat) : fieldAddrV Try.prog 93 (.ele l o) 2 = some (.ele l (o + 2)) := fa_ele _ 93 _ tk93 l o 2 2 3 _ rfl ty3 (by decide)
theorem fd93_2 (l : List AV) : fieldV Try.prog 93 (.agg l) 2 = l[2]? := by rw [fd_agg _ 93 _ tk93 l 2 2 3 _ rfl ty3]; rfl
theorem ldp104 (H : Heap) (b o : Nat) : loadV Try.prog H 104 (.ptr b o) = (hget H b).bind fun k => k[o]? := by rw [load_ptr _ H 104 _ ty104 b o]; rfl
theorem lde104 (H : Heap) (l : List AV) (o : Nat) : loadV Try.prog H 104 (.ele l o) = l[o]? := by rw [load_ele _ H 104 _ ty104 l o]; rfl
theorem zr104 : (tyOf Try.prog 104).bind (fun ty => ty.zero) = some [.nilFunc] := by rw [ty104]; rfl

attribute [go_sem] sigP ldp1 lde1 zr1 ldp2 lde2 zr2 ldp3 lde3 zr3 ldp4 lde4 zr4 beq4 bne4 ldp5 lde5 zr5 ldp9 lde9
  zr9 lnt9 ldp22 lde22 zr22 ias22 iao22 lns22 lno22 lnn22 ldp24 lde24 pl24 zr24 fap24_0 fae24_0 fd24_0 fap24_1 fae24_1 fd24_1
  fap24_2 fae24_2 fd24_2 fap24_3 fae24_3 fd24_3 ldp27 lde27 zr27 ias27 iao27 lns27 lno27 lnn27 ldp28 lde28 zr28 ias28 iao28 lns28
  lno28 lnn28 ldp29 lde29 zr29 ldp40 lde40 zr40 ias40 iao40 lns40 lno40 lnn40 ldp41 lde41 zr41 ias41 iao41 lns41 lno41
  lnn41 ldp43 lde43 pl43 zr43 fap43_0 fae43_0 fd43_0 fap43_1 fae43_1 fd43_1 ldp46 lde46 pl46 zr46 fap46_0 fae46_0 fd46_0 fap46_1 fae46_1
  fd46_1 fap46_2 fae46_2 fd46_2 ldp58 lde58 pl58 zr58 ldp66 lde66 pl66 zr66 fap66_0 fae66_0 fd66_0 fap66_1 fae66_1 fd66_1 fap66_2 fae66_2
  fd66_2 ldp67 lde67 zr67 ias67 iao67 lns67 lno67 lnn67 ldp71 lde71 pl71 zr71 fap71_0 fae71_0 fd71_0 fap71_1 fae71_1 fd71_1 ldp78
  lde78 zr78 ias78 iao78 lns78 lno78 lnn78 ldp93 lde93 pl93 zr93 fap93_0 fae93_0 fd93_0 fap93_1 fae93_1 fd93_1 fap93_2 fae93_2 fd93_2
  ldp104 lde104 zr104
end Go.Proofs.Ytdicnojnkbmdlaa
