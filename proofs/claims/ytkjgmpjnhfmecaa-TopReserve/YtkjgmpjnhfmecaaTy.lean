/-
  What loads, indexing, fields and lengths yield, type by type. Written by program (typack.py).
-/
import Derived.Test.YtkjgmpjnhfmecaaSy
import Derived.Test.YtkjgmpjnhfmecaaAmT
namespace Go.Proofs.Ytkjgmpjnhfmecaa
open Go Go.Am

theorem ldp1 (H : Heap) (b o : Nat) : loadV Try.prog H 1 (.ptr b o) = (hget H b).bind fun k => k[o]? := by rw [load_ptr _ H 1 _ ty1 b o]; rfl
theorem lde1 (H : Heap) (l : List AV) (o : Nat) : loadV Try.prog H 1 (.ele l o) = l[o]? := by rw [load_ele _ H 1 _ ty1 l o]; rfl
theorem zr1 : (tyOf Try.prog 1).bind (fun ty => ty.zero) = some [.nilFunc] := by rw [ty1]; rfl
theorem ldp2 (H : Heap) (b o : Nat) : loadV Try.prog H 2 (.ptr b o) = (hget H b).bind fun k => k[o]? := by rw [load_ptr _ H 2 _ ty2 b o]; rfl
theorem lde2 (H : Heap) (l : List AV) (o : Nat) : loadV Try.prog H 2 (.ele l o) = l[o]? := by rw [load_ele _ H 2 _ ty2 l o]; rfl
theorem zr2 : (tyOf Try.prog 2).bind (fun ty => ty.zero) = some [.int .i64 0] := by rw [ty2]; rfl
theorem ldp3 (H : Heap) (b o : Nat) : loadV Try.prog H 3 (.ptr b o) = (hget H b).bind fun k => k[o]? := by rw [load_ptr _ H 3 _ ty3 b o]; rfl
theorem lde3 (H : Heap) (l : List AV) (o : Nat) : loadV Try.prog H 3 (.ele l o) = l[o]? := by rw [load_ele _ H 3 _ ty3 l o]; rfl
theorem zr3 : (tyOf Try.prog 3).bind (fun ty => ty.zero) = some [.int .i64 0] := by rw [ty3]; rfl
theorem ldp4 (H : Heap) (b o : Nat) : loadV Try.prog H 4 (.ptr b o) = (hget H b).bind fun k => k[o]? := by rw [load_ptr _ H 4 _ ty4 b o]; rfl
theorem lde4 (H : Heap) (l : List AV) (o : Nat) : loadV Try.prog H 4 (.ele l o) = l[o]? := by rw [load_ele _ H 4 _ ty4 l o]; rfl
theorem zr4 : (tyOf Try.prog 4).bind (fun ty => ty.zero) = some [.bool false] := by rw [ty4]; rfl
theorem beq4 (a b : Bool) : binV Try.prog .eql 4 (.v (.bool a)) (.v (.bool b)) = some (.v (.bool (a == b))) := by simp only [binV, tk4]
theorem bne4 (a b : Bool) : binV Try.prog .neq 4 (.v (.bool a)) (.v (.bool b)) = some (.v (.bool (!(a == b)))) := by simp only [binV, tk4]
theorem ldp5 (H : Heap) (b o : Nat) : loadV Try.prog H 5 (.ptr b o) = (hget H b).bind fun k => k[o]? := by rw [load_ptr _ H 5 _ ty5 b o]; rfl
theorem lde5 (H : Heap) (l : List AV) (o : Nat) : loadV Try.prog H 5 (.ele l o) = l[o]? := by rw [load_ele _ H 5 _ ty5 l o]; rfl
theorem zr5 : (tyOf Try.prog 5).bind (fun ty => ty.zero) = some [.int .u8 0] := by rw [ty5]; rfl
theorem ldp22 (H : Heap) (b o : Nat) : loadV Try.prog H 22 (.ptr b o) = (hget H b).bind fun k => k[o]? := by rw [load_ptr _ H 22 _ ty22 b o]; rfl
theorem lde22 (H : Heap) (l : List AV) (o : Nat) : loadV Try.prog H 22 (.ele l o) = l[o]? := by rw [load_ele _ H 22 _ ty22 l o]; rfl
theorem zr22 : (tyOf Try.prog 22).bind (fun ty => ty.zero) = some [.slice none 0 0] := by rw [ty22]; rfl
theorem ias22 (n : Nat) (l : List AV) (k : IntKind) (i : Int) (h0 : 0 ≤ i) (h1 : i < n) : indexAddrV Try.prog 22 (.sl n l) (.v (.int k i)) = some (.ele l (i.toNat)) := by rw [ia_sl _ 22 3 _ tk22 ty3, if_pos ⟨h0, h1⟩]; rw [Nat.mul_one]
theorem iao22 (z b o n : Nat) (k : IntKind) (i : Int) (h0 : 0 ≤ i) (h1 : i < n) : indexAddrV Try.prog 22 (.own z b o n) (.v (.int k i)) = some (.ptr b (o + i.toNat)) := by rw [ia_own _ 22 3 _ tk22 ty3, if_pos ⟨h0, h1⟩]; rw [Nat.mul_one]
theorem lns22 (n : Nat) (l : List AV) : lenV (tyOf Try.prog 22) (.sl n l) = some (.v (.int .i64 n)) := by rw [ty22]; exact len_sl _ 3 _ _ rfl
theorem lno22 (z b o n : Nat) : lenV (tyOf Try.prog 22) (.own z b o n) = some (.v (.int .i64 n)) := by rw [ty22]; exact len_own _ 3 _ _ _ _ rfl
theorem lnn22 (n : Nat) : lenV (tyOf Try.prog 22) (.v (.slice none n 0)) = some (.v (.int .i64 n)) := by rw [ty22]; exact len_nil _ 3 _ rfl
theorem ldp24 (H : Heap) (b o : Nat) : loadV Try.prog H 24 (.ptr b o) = (hget H b).bind fun k => partL { size := 3, bytes := 40, agg := true, k := .struct [(0, 2), (1, 2), (2, 22)], zero := some [.int .i64 0, .int .i64 0, .slice none 0 0] } k o := load_ptr _ H 24 _ ty24 b o
theorem lde24 (H : Heap) (l : List AV) (o : Nat) : loadV Try.prog H 24 (.ele l o) = partL { size := 3, bytes := 40, agg := true, k := .struct [(0, 2), (1, 2), (2, 22)], zero := some [.int .i64 0, .int .i64 0, .slice none 0 0] } l o := load_ele _ H 24 _ ty24 l o
theorem pl24 (l : List AV) (o : Nat) (h : o + 3 ≤ l.length) : partL { size := 3, bytes := 40, agg := true, k := .struct [(0, 2), (1, 2), (2, 22)], zero := some [.int .i64 0, .int .i64 0, .slice none 0 0] } l o = some (.agg ((l.drop o).take 3)) := by rw [partL_agg _ _ _ rfl, if_pos h]
theorem zr24 : (tyOf Try.prog 24).bind (fun ty => ty.zero) = some [.int .i64 0, .int .i64 0, .slice none 0 0] := by rw [ty24]; rfl
theorem fap24_0 (b o : Nat) : fieldAddrV Try.prog 24 (.ptr b o) 0 = some (.ptr b (o)) := fa_ptr _ 24 _ tk24 b o 0 0 2 _ rfl ty2 (by decide)
theorem fae24_0 (l : List AV) (o : Nat) : fieldAddrV Try.prog 24 (.ele l o) 0 = some (.ele l (o)) := fa_ele _ 24 _ tk24 l o 0 0 2 _ rfl ty2 (by decide)
theorem fd24_0 (l : List AV) : fieldV Try.prog 24 (.agg l) 0 = l[0]? := by rw [fd_agg _ 24 _ tk24 l 0 0 2 _ rfl ty2]; rfl
theorem fap24_1 (b o : Nat) : fieldAddrV Try.prog 24 (.ptr b o) 1 = some (.ptr b (o + 1)) := fa_ptr _ 24 _ tk24 b o 1 1 2 _ rfl ty2 (by decide)
theorem fae24_1 (l : List AV) (o : Nat) : fieldAddrV Try.prog 24 (.ele l o) 1 = some (.ele l (o + 1)) := fa_ele _ 24 _ tk24 l o 1 1 2 _ rfl ty2 (by decide)
theorem fd24_1 (l : List AV) : fieldV Try.prog 24 (.agg l) 1 = l[1]? := by rw [fd_agg _ 24 _ tk24 l 1 1 2 _ rfl ty2]; rfl
theorem fap24_2 (b o : Nat) : fieldAddrV Try.prog 24 (.ptr b o) 2 = some (.ptr b (o + 2)) := fa_ptr _ 24 _ tk24 b o 2 2 22 _ rfl ty22 (by decide)
theorem fae24_2 (l : List AV) (o : Nat) : fieldAddrV Try.prog 24 (.ele l o) 2 = some (.ele l (o + 2)) := fa_ele _ 24 _ tk24 l o 2 2 22 _ rfl ty22 (by decide)
theorem fd24_2 (l : List AV) : fieldV Try.prog 24 (.agg l) 2 = l[2]? := by rw [fd_agg _ 24 _ tk24 l 2 2 22 _ rfl ty22]; rfl
theorem ldp25 (H : Heap) (b o : Nat) : loadV Try.prog H 25 (.ptr b o) = (hget H b).bind fun k => partL { size := 4, bytes := 4, agg := true, k := .array 4 5, zero := some [.int .u8 0, .int .u8 0, .int .u8 0, .int .u8 0] } k o := load_ptr _ H 25 _ ty25 b o
theorem lde25 (H : Heap) (l : List AV) (o : Nat) : loadV Try.prog H 25 (.ele l o) = partL { size := 4, bytes := 4, agg := true, k := .array 4 5, zero := some [.int .u8 0, .int .u8 0, .int .u8 0, .int .u8 0] } l o := load_ele _ H 25 _ ty25 l o
theorem pl25 (l : List AV) (o : Nat) (h : o + 4 ≤ l.length) : partL { size := 4, bytes := 4, agg := true, k := .array 4 5, zero := some [.int .u8 0, .int .u8 0, .int .u8 0, .int .u8 0] } l o = some (.agg ((l.drop o).take 4)) := by rw [partL_agg _ _ _ rfl, if_pos h]
theorem zr25 : (tyOf Try.prog 25).bind (fun ty => ty.zero) = some [.int .u8 0, .int .u8 0, .int .u8 0, .int .u8 0] := by rw [ty25]; rfl
theorem ldp29 (H : Heap) (b o : Nat) : loadV Try.prog H 29 (.ptr b o) = (hget H b).bind fun k => k[o]? := by rw [load_ptr _ H 29 _ ty29 b o]; rfl
theorem lde29 (H : Heap) (l : List AV) (o : Nat) : loadV Try.prog H 29 (.ele l o) = l[o]? := by rw [load_ele _ H 29 _ ty29 l o]; rfl
theorem zr29 : (tyOf Try.prog 29).bind (fun ty => ty.zero) = some [.slice none 0 0] := by rw [ty29]; rfl
theorem ias29 (n : Nat) (l : List AV) (k : IntKind) (i : Int) (h0 : 0 ≤ i) (h1 : i < n) : indexAddrV Try.prog 29 (.sl n l) (.v (.int k i)) = some (.ele l (i.toNat * 3)) := by rw [ia_sl _ 29 37 _ tk29 ty37, if_pos ⟨h0, h1⟩]
theorem iao29 (z b o n : Nat) (k : IntKind) (i : Int) (h0 : 0 ≤ i) (h1 : i < n) : indexAddrV Try.prog 29 (.own z b o n) (.v (.int k i)) = some (.ptr b (o + i.toNat * 3)) := by rw [ia_own _ 29 37 _ tk29 ty37, if_pos ⟨h0, h1⟩]
theorem lns29 (n : Nat) (l : List AV) : lenV (tyOf Try.prog 29) (.sl n l) = some (.v (.int .i64 n)) := by rw [ty29]; exact len_sl _ 37 _ _ rfl
theorem lno29 (z b o n : Nat) : lenV (tyOf Try.prog 29) (.own z b o n) = some (.v (.int .i64 n)) := by rw [ty29]; exact len_own _ 37 _ _ _ _ rfl
theorem lnn29 (n : Nat) : lenV (tyOf Try.prog 29) (.v (.slice none n 0)) = some (.v (.int .i64 n)) := by rw [ty29]; exact len_nil _ 37 _ rfl
theorem ldp30 (H : Heap) (b o : Nat) : loadV Try.prog H 30 (.ptr b o) = (hget H b).bind fun k => k[o]? := by rw [load_ptr _ H 30 _ ty30 b o]; rfl
theorem lde30 (H : Heap) (l : List AV) (o : Nat) : loadV Try.prog H 30 (.ele l o) = l[o]? := by rw [load_ele _ H 30 _ ty30 l o]; rfl
theorem zr30 : (tyOf Try.prog 30).bind (fun ty => ty.zero) = some [.int .i64 0] := by rw [ty30]; rfl
theorem ldp33 (H : Heap) (b o : Nat) : loadV Try.prog H 33 (.ptr b o) = (hget H b).bind fun k => k[o]? := by rw [load_ptr _ H 33 _ ty33 b o]; rfl
theorem lde33 (H : Heap) (l : List AV) (o : Nat) : loadV Try.prog H 33 (.ele l o) = l[o]? := by rw [load_ele _ H 33 _ ty33 l o]; rfl
theorem zr33 : (tyOf Try.prog 33).bind (fun ty => ty.zero) = some [.slice none 0 0] := by rw [ty33]; rfl
theorem ias33 (n : Nat) (l : List AV) (k : IntKind) (i : Int) (h0 : 0 ≤ i) (h1 : i < n) : indexAddrV Try.prog 33 (.sl n l) (.v (.int k i)) = some (.ele l (i.toNat * 5)) := by rw [ia_sl _ 33 39 _ tk33 ty39, if_pos ⟨h0, h1⟩]
theorem iao33 (z b o n : Nat) (k : IntKind) (i : Int) (h0 : 0 ≤ i) (h1 : i < n) : indexAddrV Try.prog 33 (.own z b o n) (.v (.int k i)) = some (.ptr b (o + i.toNat * 5)) := by rw [ia_own _ 33 39 _ tk33 ty39, if_pos ⟨h0, h1⟩]
theorem lns33 (n : Nat) (l : List AV) : lenV (tyOf Try.prog 33) (.sl n l) = some (.v (.int .i64 n)) := by rw [ty33]; exact len_sl _ 39 _ _ rfl
theorem lno33 (z b o n : Nat) : lenV (tyOf Try.prog 33) (.own z b o n) = some (.v (.int .i64 n)) := by rw [ty33]; exact len_own _ 39 _ _ _ _ rfl
theorem lnn33 (n : Nat) : lenV (tyOf Try.prog 33) (.v (.slice none n 0)) = some (.v (.int .i64 n)) := by rw [ty33]; exact len_nil _ 39 _ rfl
theorem ldp37 (H : Heap) (b o : Nat) : loadV Try.prog H 37 (.ptr b o) = (hget H b).bind fun k => partL { size := 3, bytes := 24, agg := true, k := .struct [(0, 3), (1, 3), (2, 3)], zero := some [.int .i64 0, .int .i64 0, .int .i64 0] } k o := load_ptr _ H 37 _ ty37 b o
theorem lde37 (H : Heap) (l : List AV) (o : Nat) : loadV Try.prog H 37 (.ele l o) = partL { size := 3, bytes := 24, agg := true, k := .struct [(0, 3), (1, 3), (2, 3)], zero := some [.int .i64 0, .int .i64 0, .int .i64 0] } l o := load_ele _ H 37 _ ty37 l o
theorem pl37 (l : List AV) (o : Nat) (h : o + 3 ≤ l.length) : partL { size := 3, bytes := 24, agg := true, k := .struct [(0, 3), (1, 3), (2, 3)], zero := some [.int .i64 0, .int .i64 0, .int .i64 0] } l o = some (.agg ((l.drop o).take 3)) := by rw [partL_agg _ _ _ rfl, if_pos h]
theorem zr37 : (tyOf Try.prog 37).bind (fun ty => ty.zero) = some [.int .i64 0, .int .i64 0, .int .i64 0] := by rw [ty37]; rfl
theorem fap37_0 (b o : Nat) : fieldAddrV Try.prog 37 (.ptr b o) 0 = some (.ptr b (o)) := fa_ptr _ 37 _ tk37 b o 0 0 3 _ rfl ty3 (by decide)
theorem fae37_0 (l : List AV) (o : Nat) : fieldAddrV Try.prog 37 (.ele l o) 0 = some (.ele l (o)) := fa_ele _ 37 _ tk37 l o 0 0 3 _ rfl ty3 (by decide)
theorem fd37_0 (l : List AV) : fieldV Try.prog 37 (.agg l) 0 = l[0]? := by rw [fd_agg _ 37 _ tk37 l 0 0 3 _ rfl ty3]; rfl
theorem fap37_1 (b o : Nat) : fieldAddrV Try.prog 37 (.ptr b o) 1 = some (.ptr b (o + 1)) := fa_ptr _ 37 _ tk37 b o 1 1 3 _ rfl ty3 (by decide)
theorem fae37_1 (l : List AV) (o : Nat) : fieldAddrV Try.prog 37 (.ele l o) 1 = some (.ele l (o + 1)) := fa_ele _ 37 _ tk37 l o 1 1 3 _ rfl ty3 (by decide)
theorem fd37_1 (l : List AV) : fieldV Try.prog 37 (.agg l) 1 = l[1]? := by rw [fd_agg _ 37 _ tk37 l 1 1 3 _ rfl ty3]; rfl
theorem fap37_2 (b o : Nat) : fieldAddrV Try.prog 37 (.ptr b o) 2 = some (.ptr b (o + 2)) := fa_ptr _ 37 _ tk37 b o 2 2 3 _ rfl ty3 (by decide)
theorem fae37_2 (l : List AV) (o : Nat) : fieldAddrV Try.prog 37 (.ele l o) 2 = some (.ele l (o + 2)) := fa_ele _ 37 _ tk37 l o 2 2 3 _ rfl ty3 (by decide)
theorem fd37_2 (l : List AV) : fieldV Try.prog 37 (.agg l) 2 = l[2]? := by rw [fd_agg _ 37 _ tk37 l 2 2 3 _ rfl ty3]; rfl
theorem ldp39 (H : Heap) (b o : Nat) : loadV Try.prog H 39 (.ptr b o) = (hget H b).bind fun k => partL { size := 5, bytes := 40, agg := true, k := .struct [(0, 37), (3, 2), (4, 3)], zero := some [.int .i64 0, .int .i64 0, .int .i64 0, .int .i64 0, .int .i64 0] } k o := load_ptr _ H 39 _ ty39 b o
theorem lde39 (H : Heap) (l : List AV) (o : Nat) : loadV Try.prog H 39 (.ele l o) = partL { size := 5, bytes := 40, agg := true, k := .struct [(0, 37), (3, 2), (4, 3)], zero := some [.int .i64 0, .int .i64 0, .int .i64 0, .int .i64 0, .int .i64 0] } l o := load_ele _ H 39 _ ty39 l o
theorem pl39 (l : List AV) (o : Nat) (h : o + 5 ≤ l.length) : partL { size := 5, bytes := 40, agg := true, k := .struct [(0, 37), (3, 2), (4, 3)], zero := some [.int .i64 0, .int .i64 0, .int .i64 0, .int .i64 0, .int .i64 0] } l o = some (.agg ((l.drop o).take 5)) := by rw [partL_agg _ _ _ rfl, if_pos h]
theorem zr39 : (tyOf Try.prog 39).bind (fun ty => ty.zero) = some [.int .i64 0, .int .i64 0, .int .i64 0, .int .i64 0, .int .i64 0] := by rw [ty39]; rfl
theorem fap39_0 (b o : Nat) : fieldAddrV Try.prog 39 (.ptr b o) 0 = some (.ptr b (o)) := fa_ptr _ 39 _ tk39 b o 0 0 37 _ rfl ty37 (by decide)
theorem fae39_0 (l : List AV) (o : Nat) : fieldAddrV Try.prog 39 (.ele l o) 0 = some (.ele l (o)) := fa_ele _ 39 _ tk39 l o 0 0 37 _ rfl ty37 (by decide)
theorem fd39_0 (l : List AV) : fieldV Try.prog 39 (.agg l) 0 = partL { size := 3, bytes := 24, agg := true, k := .struct [(0, 3), (1, 3), (2, 3)], zero := some [.int .i64 0, .int .i64 0, .int .i64 0] } l 0 := fd_agg _ 39 _ tk39 l 0 0 37 _ rfl ty37
theorem fap39_1 (b o : Nat) : fieldAddrV Try.prog 39 (.ptr b o) 1 = some (.ptr b (o + 3)) := fa_ptr _ 39 _ tk39 b o 1 3 2 _ rfl ty2 (by decide)
theorem fae39_1 (l : List AV) (o : Nat) : fieldAddrV Try.prog 39 (.ele l o) 1 = some (.ele l (o + 3)) := fa_ele _ 39 _ tk39 l o 1 3 2 _ rfl ty2 (by decide)
theorem fd39_1 (l : List AV) : fieldV Try.prog 39 (.agg l) 1 = l[3]? := by rw [fd_agg _ 39 _ tk39 l 1 3 2 _ rfl ty2]; rfl
theorem fap39_2 (b o : Nat) : fieldAddrV Try.prog 39 (.ptr b o) 2 = some (.ptr b (o + 4)) := fa_ptr _ 39 _ tk39 b o 2 4 3 _ rfl ty3 (by decide)
theorem fae39_2 (l : List AV) (o : Nat) : fieldAddrV Try.prog 39 (.ele l o) 2 = some (.ele l (o + 4)) := fa_ele _ 39 _ tk39 l o 2 4 3 _ rfl ty3 (by decide)
theorem fd39_2 (l : List AV) : fieldV Try.prog 39 (.agg l) 2 = l[4]? := by rw [fd_agg _ 39 _ tk39 l 2 4 3 _ rfl ty3]; rfl
theorem ldp40 (H : Heap) (b o : Nat) : loadV Try.prog H 40 (.ptr b o) = (hget H b).bind fun k => k[o]? := by rw [load_ptr _ H 40 _ ty40 b o]; rfl
theorem lde40 (H : Heap) (l : List AV) (o : Nat) : loadV Try.prog H 40 (.ele l o) = l[o]? := by rw [load_ele _ H 40 _ ty40 l o]; rfl
theorem zr40 : (tyOf Try.prog 40).bind (fun ty => ty.zero) = some [.slice none 0 0] := by rw [ty40]; rfl
theorem ias40 (n : Nat) (l : List AV) (k : IntKind) (i : Int) (h0 : 0 ≤ i) (h1 : i < n) : indexAddrV Try.prog 40 (.sl n l) (.v (.int k i)) = some (.ele l (i.toNat * 2)) := by rw [ia_sl _ 40 43 _ tk40 ty43, if_pos ⟨h0, h1⟩]
theorem iao40 (z b o n : Nat) (k : IntKind) (i : Int) (h0 : 0 ≤ i) (h1 : i < n) : indexAddrV Try.prog 40 (.own z b o n) (.v (.int k i)) = some (.ptr b (o + i.toNat * 2)) := by rw [ia_own _ 40 43 _ tk40 ty43, if_pos ⟨h0, h1⟩]
theorem lns40 (n : Nat) (l : List AV) : lenV (tyOf Try.prog 40) (.sl n l) = some (.v (.int .i64 n)) := by rw [ty40]; exact len_sl _ 43 _ _ rfl
theorem lno40 (z b o n : Nat) : lenV (tyOf Try.prog 40) (.own z b o n) = some (.v (.int .i64 n)) := by rw [ty40]; exact len_own _ 43 _ _ _ _ rfl
theorem lnn40 (n : Nat) : lenV (tyOf Try.prog 40) (.v (.slice none n 0)) = some (.v (.int .i64 n)) := by rw [ty40]; exact len_nil _ 43 _ rfl
theorem ldp41 (H : Heap) (b o : Nat) : loadV Try.prog H 41 (.ptr b o) = (hget H b).bind fun k => k[o]? := by rw [load_ptr _ H 41 _ ty41 b o]; rfl
theorem lde41 (H : Heap) (l : List AV) (o : Nat) : loadV Try.prog H 41 (.ele l o) = l[o]? := by rw [load_ele _ H 41 _ ty41 l o]; rfl
theorem zr41 : (tyOf Try.prog 41).bind (fun ty => ty.zero) = some [.int .u64 0] := by rw [ty41]; rfl
theorem ldp43 (H : Heap) (b o : Nat) : loadV Try.prog H 43 (.ptr b o) = (hget H b).bind fun k => partL { size := 2, bytes := 16, agg := true, k := .struct [(0, 2), (1, 2)], zero := some [.int .i64 0, .int .i64 0] } k o := load_ptr _ H 43 _ ty43 b o
theorem lde43 (H : Heap) (l : List AV) (o : Nat) : loadV Try.prog H 43 (.ele l o) = partL { size := 2, bytes := 16, agg := true, k := .struct [(0, 2), (1, 2)], zero := some [.int .i64 0, .int .i64 0] } l o := load_ele _ H 43 _ ty43 l o
theorem pl43 (l : List AV) (o : Nat) (h : o + 2 ≤ l.length) : partL { size := 2, bytes := 16, agg := true, k := .struct [(0, 2), (1, 2)], zero := some [.int .i64 0, .int .i64 0] } l o = some (.agg ((l.drop o).take 2)) := by rw [partL_agg _ _ _ rfl, if_pos h]
theorem zr43 : (tyOf Try.prog 43).bind (fun ty => ty.zero) = some [.int .i64 0, .int .i64 0] := by rw [ty43]; rfl
theorem fap43_0 (b o : Nat) : fieldAddrV Try.prog 43 (.ptr b o) 0 = some (.ptr b (o)) := fa_ptr _ 43 _ tk43 b o 0 0 2 _ rfl ty2 (by decide)
theorem fae43_0 (l : List AV) (o : Nat) : fieldAddrV Try.prog 43 (.ele l o) 0 = some (.ele l (o)) := fa_ele _ 43 _ tk43 l o 0 0 2 _ rfl ty2 (by decide)
theorem fd43_0 (l : List AV) : fieldV Try.prog 43 (.agg l) 0 = l[0]? := by rw [fd_agg _ 43 _ tk43 l 0 0 2 _ rfl ty2]; rfl
theorem fap43_1 (b o : Nat) : fieldAddrV Try.prog 43 (.ptr b o) 1 = some (.ptr b (o + 1)) := fa_ptr _ 43 _ tk43 b o 1 1 2 _ rfl ty2 (by decide)
theorem fae43_1 (l : List AV) (o : Nat) : fieldAddrV Try.prog 43 (.ele l o) 1 = some (.ele l (o + 1)) := fa_ele _ 43 _ tk43 l o 1 1 2 _ rfl ty2 (by decide)
theorem fd43_1 (l : List AV) : fieldV Try.prog 43 (.agg l) 1 = l[1]? := by rw [fd_agg _ 43 _ tk43 l 1 1 2 _ rfl ty2]; rfl
theorem ldp44 (H : Heap) (b o : Nat) : loadV Try.prog H 44 (.ptr b o) = (hget H b).bind fun k => k[o]? := by rw [load_ptr _ H 44 _ ty44 b o]; rfl
theorem lde44 (H : Heap) (l : List AV) (o : Nat) : loadV Try.prog H 44 (.ele l o) = l[o]? := by rw [load_ele _ H 44 _ ty44 l o]; rfl
theorem zr44 : (tyOf Try.prog 44).bind (fun ty => ty.zero) = some [.slice none 0 0] := by rw [ty44]; rfl
theorem ias44 (n : Nat) (l : List AV) (k : IntKind) (i : Int) (h0 : 0 ≤ i) (h1 : i < n) : indexAddrV Try.prog 44 (.sl n l) (.v (.int k i)) = some (.ele l (i.toNat)) := by rw [ia_sl _ 44 2 _ tk44 ty2, if_pos ⟨h0, h1⟩]; rw [Nat.mul_one]
theorem iao44 (z b o n : Nat) (k : IntKind) (i : Int) (h0 : 0 ≤ i) (h1 : i < n) : indexAddrV Try.prog 44 (.own z b o n) (.v (.int k i)) = some (.ptr b (o + i.toNat)) := by rw [ia_own _ 44 2 _ tk44 ty2, if_pos ⟨h0, h1⟩]; rw [Nat.mul_one]
theorem lns44 (n : Nat) (l : List AV) : lenV (tyOf Try.prog 44) (.sl n l) = some (.v (.int .i64 n)) := by rw [ty44]; exact len_sl _ 2 _ _ rfl
theorem lno44 (z b o n : Nat) : lenV (tyOf Try.prog 44) (.own z b o n) = some (.v (.int .i64 n)) := by rw [ty44]; exact len_own _ 2 _ _ _ _ rfl
theorem lnn44 (n : Nat) : lenV (tyOf Try.prog 44) (.v (.slice none n 0)) = some (.v (.int .i64 n)) := by rw [ty44]; exact len_nil _ 2 _ rfl
theorem ldp45 (H : Heap) (b o : Nat) : loadV Try.prog H 45 (.ptr b o) = (hget H b).bind fun k => partL { size := 2, bytes := 16, agg := true, k := .struct [(0, 2), (1, 2)], zero := some [.int .i64 0, .int .i64 0] } k o := load_ptr _ H 45 _ ty45 b o
theorem lde45 (H : Heap) (l : List AV) (o : Nat) : loadV Try.prog H 45 (.ele l o) = partL { size := 2, bytes := 16, agg := true, k := .struct [(0, 2), (1, 2)], zero := some [.int .i64 0, .int .i64 0] } l o := load_ele _ H 45 _ ty45 l o
theorem pl45 (l : List AV) (o : Nat) (h : o + 2 ≤ l.length) : partL { size := 2, bytes := 16, agg := true, k := .struct [(0, 2), (1, 2)], zero := some [.int .i64 0, .int .i64 0] } l o = some (.agg ((l.drop o).take 2)) := by rw [partL_agg _ _ _ rfl, if_pos h]
theorem zr45 : (tyOf Try.prog 45).bind (fun ty => ty.zero) = some [.int .i64 0, .int .i64 0] := by rw [ty45]; rfl
theorem fap45_0 (b o : Nat) : fieldAddrV Try.prog 45 (.ptr b o) 0 = some (.ptr b (o)) := fa_ptr _ 45 _ tk45 b o 0 0 2 _ rfl ty2 (by decide)
theorem fae45_0 (l : List AV) (o : Nat) : fieldAddrV Try.prog 45 (.ele l o) 0 = some (.ele l (o)) := fa_ele _ 45 _ tk45 l o 0 0 2 _ rfl ty2 (by decide)
theorem fd45_0 (l : List AV) : fieldV Try.prog 45 (.agg l) 0 = l[0]? := by rw [fd_agg _ 45 _ tk45 l 0 0 2 _ rfl ty2]; rfl
theorem fap45_1 (b o : Nat) : fieldAddrV Try.prog 45 (.ptr b o) 1 = some (.ptr b (o + 1)) := fa_ptr _ 45 _ tk45 b o 1 1 2 _ rfl ty2 (by decide)
theorem fae45_1 (l : List AV) (o : Nat) : fieldAddrV Try.prog 45 (.ele l o) 1 = some (.ele l (o + 1)) := fa_ele _ 45 _ tk45 l o 1 1 2 _ rfl ty2 (by decide)
theorem fd45_1 (l : List AV) : fieldV Try.prog 45 (.agg l) 1 = l[1]? := by rw [fd_agg _ 45 _ tk45 l 1 1 2 _ rfl ty2]; rfl

attribute [go_sem] ldp1 lde1 zr1 ldp2 lde2 zr2 ldp3 lde3 zr3 ldp4 lde4 zr4 beq4 bne4 ldp5 lde5 zr5 ldp22 lde22 zr22
  ias22 iao22 lns22 lno22 lnn22 ldp24 lde24 pl24 zr24 fap24_0 fae24_0 fd24_0 fap24_1 fae24_1 fd24_1 fap24_2 fae24_2 fd24_2 ldp25 lde25
  pl25 zr25 ldp29 lde29 zr29 ias29 iao29 lns29 lno29 lnn29 ldp30 lde30 zr30 ldp33 lde33 zr33 ias33 iao33 lns33 lno33
  lnn33 ldp37 lde37 pl37 zr37 fap37_0 fae37_0 fd37_0 fap37_1 fae37_1 fd37_1 fap37_2 fae37_2 fd37_2 ldp39 lde39 pl39 zr39 fap39_0 fae39_0
  fd39_0 fap39_1 fae39_1 fd39_1 fap39_2 fae39_2 fd39_2 ldp40 lde40 zr40 ias40 iao40 lns40 lno40 lnn40 ldp41 lde41 zr41 ldp43 lde43
  pl43 zr43 fap43_0 fae43_0 fd43_0 fap43_1 fae43_1 fd43_1 ldp44 lde44 zr44 ias44 iao44 lns44 lno44 lnn44 ldp45 lde45 pl45 zr45
  fap45_0 fae45_0 fd45_0 fap45_1 fae45_1 fd45_1
end Go.Proofs.Ytkjgmpjnhfmecaa
