/-
  Texts of AttackCosts, part 6 of 17. What loads, indexing, fields and lengths yield, type by type. Written by program (typack.py).
-/
import Derived.Test.YtplockpopmaejaaKAttackCosts3
import Derived.Test.YtplockpopmaejaaKAttackCosts4
import Derived.Laws.Strings
import Derived.KernelRfl
section
namespace Go.Proofs.Ytplockpopmaejaa
open Go Go.Am

theorem ldp1 (H : Heap) (b o : Nat) : loadV Try.prog H 1 (.ptr b o) = (hget H b).bind fun k => k[o]? := by rw [load_ptr _ H 1 _ ty1 b o]; rfl
theorem lde1 (H : Heap) (l : List AV) (o : Nat) : loadV Try.prog H 1 (.ele l o) = l[o]? := by rw [load_ele _ H 1 _ ty1 l o]; rfl
theorem zr1 : (tyOf Try.prog 1).bind (fun ty => ty.zero) = some [.nilFunc] := by rw [ty1]; rfl
theorem ldp2 (H : Heap) (b o : Nat) : loadV Try.prog H 2 (.ptr b o) = (hget H b).bind fun k => k[o]? := by rw [load_ptr _ H 2 _ ty2 b o]; rfl
theorem lde2 (H : Heap) (l : List AV) (o : Nat) : loadV Try.prog H 2 (.ele l o) = l[o]? := by rw [load_ele _ H 2 _ ty2 l o]; rfl
theorem zr2 : (tyOf Try.prog 2).bind (fun ty => ty.zero) = some [.int .i64 0] := by rw [ty2]; rfl
theorem ldp3 (H : Heap) (b o : Nat) : loadV Try.prog H 3 (.ptr b o) = (hget H b).bind fun k => k[o]? := by rw [load_ptr _ H 3 _ ty3 b o]; rfl
theorem lde3 (H : Heap) (l : List AV) (o : Nat) : loadV Try.prog H 3 (.ele l o) = l[o]? := by rw [load_ele _ H 3 _ ty3 l o]; rfl
theorem zr3 : (tyOf Try.prog 3).bind (fun ty => ty.zero) = some [.int .i64 0] := by rw [ty3]; rfl
theorem ldp4 (H : Heap) (b o : Nat) : loadV Try.prog H 4 (.ptr b o) = (hget H b).bind fun k => k[o]? := by rw [load_ptr _ H 4 _ ty4 b o]; rfl
theorem lde4 (H : Heap) (l : List AV) (o : Nat) : loadV Try.prog H 4 (.ele l o) = l[o]? := by rw [load_ele _ H 4 _ ty4 l o]; rfl
theorem zr4 : (tyOf Try.prog 4).bind (fun ty => ty.zero) = some [.bool false] := by rw [ty4]; rfl
theorem beq4 (a b : Bool) : binV Try.prog .eql 4 (.v (.bool a)) (.v (.bool b)) = some (.v (.bool (a == b))) := by simp only [binV, tk4]
theorem bne4 (a b : Bool) : binV Try.prog .neq 4 (.v (.bool a)) (.v (.bool b)) = some (.v (.bool (!(a == b)))) := by simp only [binV, tk4]
theorem ldp5 (H : Heap) (b o : Nat) : loadV Try.prog H 5 (.ptr b o) = (hget H b).bind fun k => k[o]? := by rw [load_ptr _ H 5 _ ty5 b o]; rfl
theorem lde5 (H : Heap) (l : List AV) (o : Nat) : loadV Try.prog H 5 (.ele l o) = l[o]? := by rw [load_ele _ H 5 _ ty5 l o]; rfl
theorem zr5 : (tyOf Try.prog 5).bind (fun ty => ty.zero) = some [.int .u8 0] := by rw [ty5]; rfl
theorem ldp9 (H : Heap) (b o : Nat) : loadV Try.prog H 9 (.ptr b o) = (hget H b).bind fun k => k[o]? := by rw [load_ptr _ H 9 _ ty9 b o]; rfl
theorem lde9 (H : Heap) (l : List AV) (o : Nat) : loadV Try.prog H 9 (.ele l o) = l[o]? := by rw [load_ele _ H 9 _ ty9 l o]; rfl
theorem zr9 : (tyOf Try.prog 9).bind (fun ty => ty.zero) = some [.string ⟨#[]⟩] := by rw [ty9]; rfl
theorem lnt9 (s : ByteArray) : lenV (tyOf Try.prog 9) (.v (.string s)) = some (.v (.int .i64 s.size)) := by rw [ty9]; exact len_str _ _ rfl
theorem ldp22 (H : Heap) (b o : Nat) : loadV Try.prog H 22 (.ptr b o) = (hget H b).bind fun k => k[o]? := by rw [load_ptr _ H 22 _ ty22 b o]; rfl
theorem lde22 (H : Heap) (l : List AV) (o : Nat) : loadV Try.prog H 22 (.ele l o) = l[o]? := by rw [load_ele _ H 22 _ ty22 l o]; rfl
theorem zr22 : (tyOf Try.prog 22).bind (fun ty => ty.zero) = some [.slice none 0 0] := by rw [ty22]; rfl
theorem ias22 (n : Nat) (l : List AV) (k : IntKind) (i : Int) (h0 : 0 ≤ i) (h1 : i < n) : indexAddrV Try.prog 22 (.sl n l) (.v (.int k i)) = some (.ele l (i.toNat * 2)) := by rw [ia_sl _ 22 31 _ tk22 ty31, if_pos ⟨h0, h1⟩]
theorem iao22 (z b o n : Nat) (k : IntKind) (i : Int) (h0 : 0 ≤ i) (h1 : i < n) : indexAddrV Try.prog 22 (.own z b o n) (.v (.int k i)) = some (.ptr b (o + i.toNat * 2)) := by rw [ia_own _ 22 31 _ tk22 ty31, if_pos ⟨h0, h1⟩]
theorem lns22 (n : Nat) (l : List AV) : lenV (tyOf Try.prog 22) (.sl n l) = some (.v (.int .i64 n)) := by rw [ty22]; exact len_sl _ 31 _ _ rfl
theorem lno22 (z b o n : Nat) : lenV (tyOf Try.prog 22) (.own z b o n) = some (.v (.int .i64 n)) := by rw [ty22]; exact len_own _ 31 _ _ _ _ rfl
theorem lnn22 (n : Nat) : lenV (tyOf Try.prog 22) (.v (.slice none n 0)) = some (.v (.int .i64 n)) := by rw [ty22]; exact len_nil _ 31 _ rfl
theorem ldp23 (H : Heap) (b o : Nat) : loadV Try.prog H 23 (.ptr b o) = (hget H b).bind fun k => k[o]? := by rw [load_ptr _ H 23 _ ty23 b o]; rfl
theorem lde23 (H : Heap) (l : List AV) (o : Nat) : loadV Try.prog H 23 (.ele l o) = l[o]? := by rw [load_ele _ H 23 _ ty23 l o]; rfl
theorem zr23 : (tyOf Try.prog 23).bind (fun ty => ty.zero) = some [.slice none 0 0] := by rw [ty23]; rfl
theorem ias23 (n : Nat) (l : List AV) (k : IntKind) (i : Int) (h0 : 0 ≤ i) (h1 : i < n) : indexAddrV Try.prog 23 (.sl n l) (.v (.int k i)) = some (.ele l (i.toNat * 2)) := by rw [ia_sl _ 23 65 _ tk23 ty65, if_pos ⟨h0, h1⟩]
theorem iao23 (z b o n : Nat) (k : IntKind) (i : Int) (h0 : 0 ≤ i) (h1 : i < n) : indexAddrV Try.prog 23 (.own z b o n) (.v (.int k i)) = some (.ptr b (o + i.toNat * 2)) := by rw [ia_own _ 23 65 _ tk23 ty65, if_pos ⟨h0, h1⟩]
theorem lns23 (n : Nat) (l : List AV) : lenV (tyOf Try.prog 23) (.sl n l) = some (.v (.int .i64 n)) := by rw [ty23]; exact len_sl _ 65 _ _ rfl
theorem lno23 (z b o n : Nat) : lenV (tyOf Try.prog 23) (.own z b o n) = some (.v (.int .i64 n)) := by rw [ty23]; exact len_own _ 65 _ _ _ _ rfl
theorem lnn23 (n : Nat) : lenV (tyOf Try.prog 23) (.v (.slice none n 0)) = some (.v (.int .i64 n)) := by rw [ty23]; exact len_nil _ 65 _ rfl
theorem ldp25 (H : Heap) (b o : Nat) : loadV Try.prog H 25 (.ptr b o) = (hget H b).bind fun k => partL { size := 2, bytes := 48, agg := true, k := .struct [(0, 22), (1, 23)], zero := some [.slice none 0 0, .slice none 0 0] } k o := load_ptr _ H 25 _ ty25 b o
theorem lde25 (H : Heap) (l : List AV) (o : Nat) : loadV Try.prog H 25 (.ele l o) = partL { size := 2, bytes := 48, agg := true, k := .struct [(0, 22), (1, 23)], zero := some [.slice none 0 0, .slice none 0 0] } l o := load_ele _ H 25 _ ty25 l o
theorem pl25 (l : List AV) (o : Nat) (h : o + 2 ≤ l.length) : partL { size := 2, bytes := 48, agg := true, k := .struct [(0, 22), (1, 23)], zero := some [.slice none 0 0, .slice none 0 0] } l o = some (.agg ((l.drop o).take 2)) := by rw [partL_agg _ _ _ rfl, if_pos h]
theorem zr25 : (tyOf Try.prog 25).bind (fun ty => ty.zero) = some [.slice none 0 0, .slice none 0 0] := by rw [ty25]; rfl
theorem fap25_0 (b o : Nat) : fieldAddrV Try.prog 25 (.ptr b o) 0 = some (.ptr b (o)) := fa_ptr _ 25 _ tk25 b o 0 0 22 _ rfl ty22 (by decide)
theorem fae25_0 (l : List AV) (o : Nat) : fieldAddrV Try.prog 25 (.ele l o) 0 = some (.ele l (o)) := fa_ele _ 25 _ tk25 l o 0 0 22 _ rfl ty22 (by decide)
theorem fd25_0 (l : List AV) : fieldV Try.prog 25 (.agg l) 0 = l[0]? := by rw [fd_agg _ 25 _ tk25 l 0 0 22 _ rfl ty22]; rfl
theorem fap25_1 (b o : Nat) : fieldAddrV Try.prog 25 (.ptr b o) 1 = some (.ptr b (o + 1)) := fa_ptr _ 25 _ tk25 b o 1 1 23 _ rfl ty23 (by decide)
theorem fae25_1 (l : List AV) (o : Nat) : fieldAddrV Try.prog 25 (.ele l o) 1 = some (.ele l (o + 1)) := fa_ele _ 25 _ tk25 l o 1 1 23 _ rfl ty23 (by decide)
theorem fd25_1 (l : List AV) : fieldV Try.prog 25 (.agg l) 1 = l[1]? := by rw [fd_agg _ 25 _ tk25 l 1 1 23 _ rfl ty23]; rfl
theorem ldp26 (H : Heap) (b o : Nat) : loadV Try.prog H 26 (.ptr b o) = (hget H b).bind fun k => k[o]? := by rw [load_ptr _ H 26 _ ty26 b o]; rfl
theorem lde26 (H : Heap) (l : List AV) (o : Nat) : loadV Try.prog H 26 (.ele l o) = l[o]? := by rw [load_ele _ H 26 _ ty26 l o]; rfl
theorem zr26 : (tyOf Try.prog 26).bind (fun ty => ty.zero) = some [.slice none 0 0] := by rw [ty26]; rfl
theorem ias26 (n : Nat) (l : List AV) (k : IntKind) (i : Int) (h0 : 0 ≤ i) (h1 : i < n) : indexAddrV Try.prog 26 (.sl n l) (.v (.int k i)) = some (.ele l (i.toNat)) := by rw [ia_sl _ 26 3 _ tk26 ty3, if_pos ⟨h0, h1⟩]; rw [Nat.mul_one]
theorem iao26 (z b o n : Nat) (k : IntKind) (i : Int) (h0 : 0 ≤ i) (h1 : i < n) : indexAddrV Try.prog 26 (.own z b o n) (.v (.int k i)) = some (.ptr b (o + i.toNat)) := by rw [ia_own _ 26 3 _ tk26 ty3, if_pos ⟨h0, h1⟩]; rw [Nat.mul_one]
theorem lns26 (n : Nat) (l : List AV) : lenV (tyOf Try.prog 26) (.sl n l) = some (.v (.int .i64 n)) := by rw [ty26]; exact len_sl _ 3 _ _ rfl
theorem lno26 (z b o n : Nat) : lenV (tyOf Try.prog 26) (.own z b o n) = some (.v (.int .i64 n)) := by rw [ty26]; exact len_own _ 3 _ _ _ _ rfl
theorem lnn26 (n : Nat) : lenV (tyOf Try.prog 26) (.v (.slice none n 0)) = some (.v (.int .i64 n)) := by rw [ty26]; exact len_nil _ 3 _ rfl
theorem ldp27 (H : Heap) (b o : Nat) : loadV Try.prog H 27 (.ptr b o) = (hget H b).bind fun k => partL { size := 2, bytes := 48, agg := true, k := .array 2 26, zero := some [.slice none 0 0, .slice none 0 0] } k o := load_ptr _ H 27 _ ty27 b o
theorem lde27 (H : Heap) (l : List AV) (o : Nat) : loadV Try.prog H 27 (.ele l o) = partL { size := 2, bytes := 48, agg := true, k := .array 2 26, zero := some [.slice none 0 0, .slice none 0 0] } l o := load_ele _ H 27 _ ty27 l o
theorem pl27 (l : List AV) (o : Nat) (h : o + 2 ≤ l.length) : partL { size := 2, bytes := 48, agg := true, k := .array 2 26, zero := some [.slice none 0 0, .slice none 0 0] } l o = some (.agg ((l.drop o).take 2)) := by rw [partL_agg _ _ _ rfl, if_pos h]
theorem zr27 : (tyOf Try.prog 27).bind (fun ty => ty.zero) = some [.slice none 0 0, .slice none 0 0] := by rw [ty27]; rfl
theorem ldp29 (H : Heap) (b o : Nat) : loadV Try.prog H 29 (.ptr b o) = (hget H b).bind fun k => k[o]? := by rw [load_ptr _ H 29 _ ty29 b o]; rfl
theorem lde29 (H : Heap) (l : List AV) (o : Nat) : loadV Try.prog H 29 (.ele l o) = l[o]? := by rw [load_ele _ H 29 _ ty29 l o]; rfl
theorem zr29 : (tyOf Try.prog 29).bind (fun ty => ty.zero) = some [.slice none 0 0] := by rw [ty29]; rfl
theorem ias29 (n : Nat) (l : List AV) (k : IntKind) (i : Int) (h0 : 0 ≤ i) (h1 : i < n) : indexAddrV Try.prog 29 (.sl n l) (.v (.int k i)) = some (.ele l (i.toNat * 3)) := by rw [ia_sl _ 29 68 _ tk29 ty68, if_pos ⟨h0, h1⟩]
theorem iao29 (z b o n : Nat) (k : IntKind) (i : Int) (h0 : 0 ≤ i) (h1 : i < n) : indexAddrV Try.prog 29 (.own z b o n) (.v (.int k i)) = some (.ptr b (o + i.toNat * 3)) := by rw [ia_own _ 29 68 _ tk29 ty68, if_pos ⟨h0, h1⟩]
theorem lns29 (n : Nat) (l : List AV) : lenV (tyOf Try.prog 29) (.sl n l) = some (.v (.int .i64 n)) := by rw [ty29]; exact len_sl _ 68 _ _ rfl
theorem lno29 (z b o n : Nat) : lenV (tyOf Try.prog 29) (.own z b o n) = some (.v (.int .i64 n)) := by rw [ty29]; exact len_own _ 68 _ _ _ _ rfl
theorem lnn29 (n : Nat) : lenV (tyOf Try.prog 29) (.v (.slice none n 0)) = some (.v (.int .i64 n)) := by rw [ty29]; exact len_nil _ 68 _ rfl
theorem ldp31 (H : Heap) (b o : Nat) : loadV Try.prog H 31 (.ptr b o) = (hget H b).bind fun k => partL { size := 2, bytes := 40, agg := true, k := .struct [(0, 9), (1, 29)], zero := some [.string ⟨#[]⟩, .slice none 0 0] } k o := load_ptr _ H 31 _ ty31 b o
theorem lde31 (H : Heap) (l : List AV) (o : Nat) : loadV Try.prog H 31 (.ele l o) = partL { size := 2, bytes := 40, agg := true, k := .struct [(0, 9), (1, 29)], zero := some [.string ⟨#[]⟩, .slice none 0 0] } l o := load_ele _ H 31 _ ty31 l o
theorem pl31 (l : List AV) (o : Nat) (h : o + 2 ≤ l.length) : partL { size := 2, bytes := 40, agg := true, k := .struct [(0, 9), (1, 29)], zero := some [.string ⟨#[]⟩, .slice none 0 0] } l o = some (.agg ((l.drop o).take 2)) := by rw [partL_agg _ _ _ rfl, if_pos h]
theorem zr31 : (tyOf Try.prog 31).bind (fun ty => ty.zero) = some [.string ⟨#[]⟩, .slice none 0 0] := by rw [ty31]; rfl
theorem fap31_0 (b o : Nat) : fieldAddrV Try.prog 31 (.ptr b o) 0 = some (.ptr b (o)) := fa_ptr _ 31 _ tk31 b o 0 0 9 _ rfl ty9 (by decide)
theorem fae31_0 (l : List AV) (o : Nat) : fieldAddrV Try.prog 31 (.ele l o) 0 = some (.ele l (o)) := fa_ele _ 31 _ tk31 l o 0 0 9 _ rfl ty9 (by decide)
theorem fd31_0 (l : List AV) : fieldV Try.prog 31 (.agg l) 0 = l[0]? := by rw [fd_agg _ 31 _ tk31 l 0 0 9 _ rfl ty9]; rfl
theorem fap31_1 (b o : Nat) : fieldAddrV Try.prog 31 (.ptr b o) 1 = some (.ptr b (o + 1)) := fa_ptr _ 31 _ tk31 b o 1 1 29 _ rfl ty29 (by decide)
theorem fae31_1 (l : List AV) (o : Nat) : fieldAddrV Try.prog 31 (.ele l o) 1 = some (.ele l (o + 1)) := fa_ele _ 31 _ tk31 l o 1 1 29 _ rfl ty29 (by decide)
theorem fd31_1 (l : List AV) : fieldV Try.prog 31 (.agg l) 1 = l[1]? := by rw [fd_agg _ 31 _ tk31 l 1 1 29 _ rfl ty29]; rfl
theorem ldp32 (H : Heap) (b o : Nat) : loadV Try.prog H 32 (.ptr b o) = (hget H b).bind fun k => k[o]? := by rw [load_ptr _ H 32 _ ty32 b o]; rfl
theorem lde32 (H : Heap) (l : List AV) (o : Nat) : loadV Try.prog H 32 (.ele l o) = l[o]? := by rw [load_ele _ H 32 _ ty32 l o]; rfl
theorem zr32 : (tyOf Try.prog 32).bind (fun ty => ty.zero) = some [.slice none 0 0] := by rw [ty32]; rfl
theorem ias32 (n : Nat) (l : List AV) (k : IntKind) (i : Int) (h0 : 0 ≤ i) (h1 : i < n) : indexAddrV Try.prog 32 (.sl n l) (.v (.int k i)) = some (.ele l (i.toNat)) := by rw [ia_sl _ 32 36 _ tk32 ty36, if_pos ⟨h0, h1⟩]; rw [Nat.mul_one]
theorem iao32 (z b o n : Nat) (k : IntKind) (i : Int) (h0 : 0 ≤ i) (h1 : i < n) : indexAddrV Try.prog 32 (.own z b o n) (.v (.int k i)) = some (.ptr b (o + i.toNat)) := by rw [ia_own _ 32 36 _ tk32 ty36, if_pos ⟨h0, h1⟩]; rw [Nat.mul_one]
theorem lns32 (n : Nat) (l : List AV) : lenV (tyOf Try.prog 32) (.sl n l) = some (.v (.int .i64 n)) := by rw [ty32]; exact len_sl _ 36 _ _ rfl
theorem lno32 (z b o n : Nat) : lenV (tyOf Try.prog 32) (.own z b o n) = some (.v (.int .i64 n)) := by rw [ty32]; exact len_own _ 36 _ _ _ _ rfl
theorem lnn32 (n : Nat) : lenV (tyOf Try.prog 32) (.v (.slice none n 0)) = some (.v (.int .i64 n)) := by rw [ty32]; exact len_nil _ 36 _ rfl
theorem ldp33 (H : Heap) (b o : Nat) : loadV Try.prog H 33 (.ptr b o) = (hget H b).bind fun k => k[o]? := by rw [load_ptr _ H 33 _ ty33 b o]; rfl
theorem lde33 (H : Heap) (l : List AV) (o : Nat) : loadV Try.prog H 33 (.ele l o) = l[o]? := by rw [load_ele _ H 33 _ ty33 l o]; rfl
theorem zr33 : (tyOf Try.prog 33).bind (fun ty => ty.zero) = some [.int .i64 0] := by rw [ty33]; rfl
theorem ldp36 (H : Heap) (b o : Nat) : loadV Try.prog H 36 (.ptr b o) = (hget H b).bind fun k => k[o]? := by rw [load_ptr _ H 36 _ ty36 b o]; rfl
theorem lde36 (H : Heap) (l : List AV) (o : Nat) : loadV Try.prog H 36 (.ele l o) = l[o]? := by rw [load_ele _ H 36 _ ty36 l o]; rfl
theorem zr36 : (tyOf Try.prog 36).bind (fun ty => ty.zero) = some [.slice none 0 0] := by rw [ty36]; rfl
theorem ias36 (n : Nat) (l : List AV) (k : IntKind) (i : Int) (h0 : 0 ≤ i) (h1 : i < n) : indexAddrV Try.prog 36 (.sl n l) (.v (.int k i)) = some (.ele l (i.toNat)) := by rw [ia_sl _ 36 2 _ tk36 ty2, if_pos ⟨h0, h1⟩]; rw [Nat.mul_one]
theorem iao36 (z b o n : Nat) (k : IntKind) (i : Int) (h0 : 0 ≤ i) (h1 : i < n) : indexAddrV Try.prog 36 (.own z b o n) (.v (.int k i)) = some (.ptr b (o + i.toNat)) := by rw [ia_own _ 36 2 _ tk36 ty2, if_pos ⟨h0, h1⟩]; rw [Nat.mul_one]
theorem lns36 (n : Nat) (l : List AV) : lenV (tyOf Try.prog 36) (.sl n l) = some (.v (.int .i64 n)) := by rw [ty36]; exact len_sl _ 2 _ _ rfl
theorem lno36 (z b o n : Nat) : lenV (tyOf Try.prog 36) (.own z b o n) = some (.v (.int .i64 n)) := by rw [ty36]; exact len_own _ 2 _ _ _ _ rfl
theorem lnn36 (n : Nat) : lenV (tyOf Try.prog 36) (.v (.slice none n 0)) = some (.v (.int .i64 n)) := by rw [ty36]; exact len_nil _ 2 _ rfl
theorem ldp39 (H : Heap) (b o : Nat) : loadV Try.prog H 39 (.ptr b o) = (hget H b).bind fun k => partL { size := 3, bytes := 40, agg := true, k := .struct [(0, 32), (1, 3), (2, 3)], zero := some [.slice none 0 0, .int .i64 0, .int .i64 0] } k o := load_ptr _ H 39 _ ty39 b o
theorem lde39 (H : Heap) (l : List AV) (o : Nat) : loadV Try.prog H 39 (.ele l o) = partL { size := 3, bytes := 40, agg := true, k := .struct [(0, 32), (1, 3), (2, 3)], zero := some [.slice none 0 0, .int .i64 0, .int .i64 0] } l o := load_ele _ H 39 _ ty39 l o
theorem pl39 (l : List AV) (o : Nat) (h : o + 3 ≤ l.length) : partL { size := 3, bytes := 40, agg := true, k := .struct [(0, 32), (1, 3), (2, 3)], zero := some [.slice none 0 0, .int .i64 0, .int .i64 0] } l o = some (.agg ((l.drop o).take 3)) := by rw [partL_agg _ _ _ rfl, if_pos h]
theorem zr39 : (tyOf Try.prog 39).bind (fun ty => ty.zero) = some [.slice none 0 0, .int .i64 0, .int .i64 0] := by rw [ty39]; rfl
theorem fap39_0 (b o : Nat) : fieldAddrV Try.prog 39 (.ptr b o) 0 = some (.ptr b (o)) := fa_ptr _ 39 _ tk39 b o 0 0 32 _ rfl ty32 (by decide)
theorem fae39_0 (l : List AV) (o : Nat) : fieldAddrV Try.prog 39 (.ele l o) 0 = some (.ele l (o)) := fa_ele _ 39 _ tk39 l o 0 0 32 _ rfl ty32 (by decide)
theorem fd39_0 (l : List AV) : fieldV Try.prog 39 (.agg l) 0 = l[0]? := by rw [fd_agg _ 39 _ tk39 l 0 0 32 _ rfl ty32]; rfl
theorem fap39_1 (b o : Nat) : fieldAddrV Try.prog 39 (.ptr b o) 1 = some (.ptr b (o + 1)) := fa_ptr _ 39 _ tk39 b o 1 1 3 _ rfl ty3 (by decide)
theorem fae39_1 (l : List AV) (o : Nat) : fieldAddrV Try.prog 39 (.ele l o) 1 = some (.ele l (o + 1)) := fa_ele _ 39 _ tk39 l o 1 1 3 _ rfl ty3 (by decide)
theorem fd39_1 (l : List AV) : fieldV Try.prog 39 (.agg l) 1 = l[1]? := by rw [fd_agg _ 39 _ tk39 l 1 1 3 _ rfl ty3]; rfl
theorem fap39_2 (b o : Nat) : fieldAddrV Try.prog 39 (.ptr b o) 2 = some (.ptr b (o + 2)) := fa_ptr _ 39 _ tk39 b o 2 2 3 _ rfl ty3 (by decide)
theorem fae39_2 (l : List AV) (o : Nat) : fieldAddrV Try.prog 39 (.ele l o) 2 = some (.ele l (o + 2)) := fa_ele _ 39 _ tk39 l o 2 2 3 _ rfl ty3 (by decide)
theorem fd39_2 (l : List AV) : fieldV Try.prog 39 (.agg l) 2 = l[2]? := by rw [fd_agg _ 39 _ tk39 l 2 2 3 _ rfl ty3]; rfl
theorem ldp41 (H : Heap) (b o : Nat) : loadV Try.prog H 41 (.ptr b o) = (hget H b).bind fun k => partL { size := 3, bytes := 56, agg := true, k := .struct [(0, 26), (1, 2), (2, 36)], zero := some [.slice none 0 0, .int .i64 0, .slice none 0 0] } k o := load_ptr _ H 41 _ ty41 b o
theorem lde41 (H : Heap) (l : List AV) (o : Nat) : loadV Try.prog H 41 (.ele l o) = partL { size := 3, bytes := 56, agg := true, k := .struct [(0, 26), (1, 2), (2, 36)], zero := some [.slice none 0 0, .int .i64 0, .slice none 0 0] } l o := load_ele _ H 41 _ ty41 l o
theorem pl41 (l : List AV) (o : Nat) (h : o + 3 ≤ l.length) : partL { size := 3, bytes := 56, agg := true, k := .struct [(0, 26), (1, 2), (2, 36)], zero := some [.slice none 0 0, .int .i64 0, .slice none 0 0] } l o = some (.agg ((l.drop o).take 3)) := by rw [partL_agg _ _ _ rfl, if_pos h]
theorem zr41 : (tyOf Try.prog 41).bind (fun ty => ty.zero) = some [.slice none 0 0, .int .i64 0, .slice none 0 0] := by rw [ty41]; rfl
theorem fap41_0 (b o : Nat) : fieldAddrV Try.prog 41 (.ptr b o) 0 = some (.ptr b (o)) := fa_ptr _ 41 _ tk41 b o 0 0 26 _ rfl ty26 (by decide)
theorem fae41_0 (l : List AV) (o : Nat) : fieldAddrV Try.prog 41 (.ele l o) 0 = some (.ele l (o)) := fa_ele _ 41 _ tk41 l o 0 0 26 _ rfl ty26 (by decide)
theorem fd41_0 (l : List AV) : fieldV Try.prog 41 (.agg l) 0 = l[0]? := by rw [fd_agg _ 41 _ tk41 l 0 0 26 _ rfl ty26]; rfl
theorem fap41_1 (b o : Nat) : fieldAddrV Try.prog 41 (.ptr b o) 1 = some (.ptr b (o + 1)) := fa_ptr _ 41 _ tk41 b o 1 1 2 _ rfl ty2 (by decide)
theorem fae41_1 (l : List AV) (o : Nat) : fieldAddrV Try.prog 41 (.ele l o) 1 = some (.ele l (o + 1)) := fa_ele _ 41 _ tk41 l o 1 1 2 _ rfl ty2 (by decide)
theorem fd41_1 (l : List AV) : fieldV Try.prog 41 (.agg l) 1 = l[1]? := by rw [fd_agg _ 41 _ tk41 l 1 1 2 _ rfl ty2]; rfl
theorem fap41_2 (b o : Nat) : fieldAddrV Try.prog 41 (.ptr b o) 2 = some (.ptr b (o + 2)) := fa_ptr _ 41 _ tk41 b o 2 2 36 _ rfl ty36 (by decide)
theorem fae41_2 (l : List AV) (o : Nat) : fieldAddrV Try.prog 41 (.ele l o) 2 = some (.ele l (o + 2)) := fa_ele _ 41 _ tk41 l o 2 2 36 _ rfl ty36 (by decide)
theorem fd41_2 (l : List AV) : fieldV Try.prog 41 (.agg l) 2 = l[2]? := by rw [fd_agg _ 41 _ tk41 l 2 2 36 _ rfl ty36]; rfl
theorem ldp54 (H : Heap) (b o : Nat) : loadV Try.prog H 54 (.ptr b o) = (hget H b).bind fun k => partL { size := 2, bytes := 32, agg := true, k := .struct [(0, 26), (1, 3)], zero := some [.slice none 0 0, .int .i64 0] } k o := load_ptr _ H 54 _ ty54 b o
theorem lde54 (H : Heap) (l : List AV) (o : Nat) : loadV Try.prog H 54 (.ele l o) = partL { size := 2, bytes := 32, agg := true, k := .struct [(0, 26), (1, 3)], zero := some [.slice none 0 0, .int .i64 0] } l o := load_ele _ H 54 _ ty54 l o
theorem pl54 (l : List AV) (o : Nat) (h : o + 2 ≤ l.length) : partL { size := 2, bytes := 32, agg := true, k := .struct [(0, 26), (1, 3)], zero := some [.slice none 0 0, .int .i64 0] } l o = some (.agg ((l.drop o).take 2)) := by rw [partL_agg _ _ _ rfl, if_pos h]
theorem zr54 : (tyOf Try.prog 54).bind (fun ty => ty.zero) = some [.slice none 0 0, .int .i64 0] := by rw [ty54]; rfl
theorem fap54_0 (b o : Nat) : fieldAddrV Try.prog 54 (.ptr b o) 0 = some (.ptr b (o)) := fa_ptr _ 54 _ tk54 b o 0 0 26 _ rfl ty26 (by decide)
theorem fae54_0 (l : List AV) (o : Nat) : fieldAddrV Try.prog 54 (.ele l o) 0 = some (.ele l (o)) := fa_ele _ 54 _ tk54 l o 0 0 26 _ rfl ty26 (by decide)
theorem fd54_0 (l : List AV) : fieldV Try.prog 54 (.agg l) 0 = l[0]? := by rw [fd_agg _ 54 _ tk54 l 0 0 26 _ rfl ty26]; rfl
theorem fap54_1 (b o : Nat) : fieldAddrV Try.prog 54 (.ptr b o) 1 = some (.ptr b (o + 1)) := fa_ptr _ 54 _ tk54 b o 1 1 3 _ rfl ty3 (by decide)
theorem fae54_1 (l : List AV) (o : Nat) : fieldAddrV Try.prog 54 (.ele l o) 1 = some (.ele l (o + 1)) := fa_ele _ 54 _ tk54 l o 1 1 3 _ rfl ty3 (by decide)
theorem fd54_1 (l : List AV) : fieldV Try.prog 54 (.agg l) 1 = l[1]? := by rw [fd_agg _ 54 _ tk54 l 1 1 3 _ rfl ty3]; rfl
theorem ldp65 (H : Heap) (b o : Nat) : loadV Try.prog H 65 (.ptr b o) = (hget H b).bind fun k => partL { size := 2, bytes := 24, agg := true, k := .struct [(0, 9), (1, 3)], zero := some [.string ⟨#[]⟩, .int .i64 0] } k o := load_ptr _ H 65 _ ty65 b o
theorem lde65 (H : Heap) (l : List AV) (o : Nat) : loadV Try.prog H 65 (.ele l o) = partL { size := 2, bytes := 24, agg := true, k := .struct [(0, 9), (1, 3)], zero := some [.string ⟨#[]⟩, .int .i64 0] } l o := load_ele _ H 65 _ ty65 l o
theorem pl65 (l : List AV) (o : Nat) (h : o + 2 ≤ l.length) : partL { size := 2, bytes := 24, agg := true, k := .struct [(0, 9), (1, 3)], zero := some [.string ⟨#[]⟩, .int .i64 0] } l o = some (.agg ((l.drop o).take 2)) := by rw [partL_agg _ _ _ rfl, if_pos h]
theorem zr65 : (tyOf Try.prog 65).bind (fun ty => ty.zero) = some [.string ⟨#[]⟩, .int .i64 0] := by rw [ty65]; rfl
theorem fap65_0 (b o : Nat) : fieldAddrV Try.prog 65 (.ptr b o) 0 = some (.ptr b (o)) := fa_ptr _ 65 _ tk65 b o 0 0 9 _ rfl ty9 (by decide)
theorem fae65_0 (l : List AV) (o : Nat) : fieldAddrV Try.prog 65 (.ele l o) 0 = some (.ele l (o)) := fa_ele _ 65 _ tk65 l o 0 0 9 _ rfl ty9 (by decide)
theorem fd65_0 (l : List AV) : fieldV Try.prog 65 (.agg l) 0 = l[0]? := by rw [fd_agg _ 65 _ tk65 l 0 0 9 _ rfl ty9]; rfl
theorem fap65_1 (b o : Nat) : fieldAddrV Try.prog 65 (.ptr b o) 1 = some (.ptr b (o + 1)) := fa_ptr _ 65 _ tk65 b o 1 1 3 _ rfl ty3 (by decide)
theorem fae65_1 (l : List AV) (o : Nat) : fieldAddrV Try.prog 65 (.ele l o) 1 = some (.ele l (o + 1)) := fa_ele _ 65 _ tk65 l o 1 1 3 _ rfl ty3 (by decide)
theorem fd65_1 (l : List AV) : fieldV Try.prog 65 (.agg l) 1 = l[1]? := by rw [fd_agg _ 65 _ tk65 l 1 1 3 _ rfl ty3]; rfl
theorem ldp68 (H : Heap) (b o : Nat) : loadV Try.prog H 68 (.ptr b o) = (hget H b).bind fun k => partL { size := 3, bytes := 24, agg := true, k := .struct [(0, 3), (1, 4), (2, 2)], zero := some [.int .i64 0, .bool false, .int .i64 0] } k o := load_ptr _ H 68 _ ty68 b o
theorem lde68 (H : Heap) (l : List AV) (o : Nat) : loadV Try.prog H 68 (.ele l o) = partL { size := 3, bytes := 24, agg := true, k := .struct [(0, 3), (1, 4), (2, 2)], zero := some [.int .i64 0, .bool false, .int .i64 0] } l o := load_ele _ H 68 _ ty68 l o
theorem pl68 (l : List AV) (o : Nat) (h : o + 3 ≤ l.length) : partL { size := 3, bytes := 24, agg := true, k := .struct [(0, 3), (1, 4), (2, 2)], zero := some [.int .i64 0, .bool false, .int .i64 0] } l o = some (.agg ((l.drop o).take 3)) := by rw [partL_agg _ _ _ rfl, if_pos h]
theorem zr68 : (tyOf Try.prog 68).bind (fun ty => ty.zero) = some [.int .i64 0, .bool false, .int .i64 0] := by rw [ty68]; rfl
theorem fap68_0 (b o : Nat) : fieldAddrV Try.prog 68 (.ptr b o) 0 = some (.ptr b (o)) := fa_ptr _ 68 _ tk68 b o 0 0 3 _ rfl ty3 (by decide)
theorem fae68_0 (l : List AV) (o : Nat) : fieldAddrV Try.prog 68 (.ele l o) 0 = some (.ele l (o)) := fa_ele _ 68 _ tk68 l o 0 0 3 _ rfl ty3 (by decide)
theorem fd68_0 (l : List AV) : fieldV Try.prog 68 (.agg l) 0 = l[0]? := by rw [fd_agg _ 68 _ tk68 l 0 0 3 _ rfl ty3]; rfl
theorem fap68_1 (b o : Nat) : fieldAddrV Try.prog 68 (.ptr b o) 1 = some (.ptr b (o + 1)) := fa_ptr _ 68 _ tk68 b o 1 1 4 _ rfl ty4 (by decide)
theorem fae68_1 (l : List AV) (o : Nat) : fieldAddrV Try.prog 68 (.ele l o) 1 = some (.ele l (o + 1)) := fa_ele _ 68 _ tk68 l o 1 1 4 _ rfl ty4 (by decide)
theorem fd68_1 (l : List AV) : fieldV Try.prog 68 (.agg l) 1 = l[1]? := by rw [fd_agg _ 68 _ tk68 l 1 1 4 _ rfl ty4]; rfl
theorem fap68_2 (b o : Nat) : fieldAddrV Try.prog 68 (.ptr b o) 2 = some (.ptr b (o + 2)) := fa_ptr _ 68 _ tk68 b o 2 2 2 _ rfl ty2 (by decide)
theorem fae68_2 (l : List AV) (o : Nat) : fieldAddrV Try.prog 68 (.ele l o) 2 = some (.ele l (o + 2)) := fa_ele _ 68 _ tk68 l o 2 2 2 _ rfl ty2 (by decide)
theorem fd68_2 (l : List AV) : fieldV Try.prog 68 (.agg l) 2 = l[2]? := by rw [fd_agg _ 68 _ tk68 l 2 2 2 _ rfl ty2]; rfl
theorem ldp70 (H : Heap) (b o : Nat) : loadV Try.prog H 70 (.ptr b o) = (hget H b).bind fun k => k[o]? := by rw [load_ptr _ H 70 _ ty70 b o]; rfl
theorem lde70 (H : Heap) (l : List AV) (o : Nat) : loadV Try.prog H 70 (.ele l o) = l[o]? := by rw [load_ele _ H 70 _ ty70 l o]; rfl
theorem zr70 : (tyOf Try.prog 70).bind (fun ty => ty.zero) = some [.slice none 0 0] := by rw [ty70]; rfl
theorem ias70 (n : Nat) (l : List AV) (k : IntKind) (i : Int) (h0 : 0 ≤ i) (h1 : i < n) : indexAddrV Try.prog 70 (.sl n l) (.v (.int k i)) = some (.ele l (i.toNat)) := by rw [ia_sl _ 70 5 _ tk70 ty5, if_pos ⟨h0, h1⟩]; rw [Nat.mul_one]
theorem iao70 (z b o n : Nat) (k : IntKind) (i : Int) (h0 : 0 ≤ i) (h1 : i < n) : indexAddrV Try.prog 70 (.own z b o n) (.v (.int k i)) = some (.ptr b (o + i.toNat)) := by rw [ia_own _ 70 5 _ tk70 ty5, if_pos ⟨h0, h1⟩]; rw [Nat.mul_one]
theorem lns70 (n : Nat) (l : List AV) : lenV (tyOf Try.prog 70) (.sl n l) = some (.v (.int .i64 n)) := by rw [ty70]; exact len_sl _ 5 _ _ rfl
theorem lno70 (z b o n : Nat) : lenV (tyOf Try.prog 70) (.own z b o n) = some (.v (.int .i64 n)) := by rw [ty70]; exact len_own _ 5 _ _ _ _ rfl
theorem lnn70 (n : Nat) : lenV (tyOf Try.prog 70) (.v (.slice none n 0)) = some (.v (.int .i64 n)) := by rw [ty70]; exact len_nil _ 5 _ rfl
theorem ldp72 (H : Heap) (b o : Nat) : loadV Try.prog H 72 (.ptr b o) = (hget H b).bind fun k => k[o]? := by rw [load_ptr _ H 72 _ ty72 b o]; rfl
theorem lde72 (H : Heap) (l : List AV) (o : Nat) : loadV Try.prog H 72 (.ele l o) = l[o]? := by rw [load_ele _ H 72 _ ty72 l o]; rfl
theorem zr72 : (tyOf Try.prog 72).bind (fun ty => ty.zero) = some [.nilFunc] := by rw [ty72]; rfl
theorem ldp73 (H : Heap) (b o : Nat) : loadV Try.prog H 73 (.ptr b o) = (hget H b).bind fun k => k[o]? := by rw [load_ptr _ H 73 _ ty73 b o]; rfl
theorem lde73 (H : Heap) (l : List AV) (o : Nat) : loadV Try.prog H 73 (.ele l o) = l[o]? := by rw [load_ele _ H 73 _ ty73 l o]; rfl
theorem zr73 : (tyOf Try.prog 73).bind (fun ty => ty.zero) = some [.nilFunc] := by rw [ty73]; rfl
theorem ldp75 (H : Heap) (b o : Nat) : loadV Try.prog H 75 (.ptr b o) = (hget H b).bind fun k => k[o]? := by rw [load_ptr _ H 75 _ ty75 b o]; rfl
theorem lde75 (H : Heap) (l : List AV) (o : Nat) : loadV Try.prog H 75 (.ele l o) = l[o]? := by rw [load_ele _ H 75 _ ty75 l o]; rfl
theorem zr75 : (tyOf Try.prog 75).bind (fun ty => ty.zero) = some [.nilFunc] := by rw [ty75]; rfl
theorem ldp76 (H : Heap) (b o : Nat) : loadV Try.prog H 76 (.ptr b o) = (hget H b).bind fun k => partL { size := 8, bytes := 64, agg := true, k := .array 8 2, zero := some [.int .i64 0, .int .i64 0, .int .i64 0, .int .i64 0, .int .i64 0, .int .i64 0, .int .i64 0, .int .i64 0] } k o := load_ptr _ H 76 _ ty76 b o
theorem lde76 (H : Heap) (l : List AV) (o : Nat) : loadV Try.prog H 76 (.ele l o) = partL { size := 8, bytes := 64, agg := true, k := .array 8 2, zero := some [.int .i64 0, .int .i64 0, .int .i64 0, .int .i64 0, .int .i64 0, .int .i64 0, .int .i64 0, .int .i64 0] } l o := load_ele _ H 76 _ ty76 l o
theorem pl76 (l : List AV) (o : Nat) (h : o + 8 ≤ l.length) : partL { size := 8, bytes := 64, agg := true, k := .array 8 2, zero := some [.int .i64 0, .int .i64 0, .int .i64 0, .int .i64 0, .int .i64 0, .int .i64 0, .int .i64 0, .int .i64 0] } l o = some (.agg ((l.drop o).take 8)) := by rw [partL_agg _ _ _ rfl, if_pos h]
theorem zr76 : (tyOf Try.prog 76).bind (fun ty => ty.zero) = some [.int .i64 0, .int .i64 0, .int .i64 0, .int .i64 0, .int .i64 0, .int .i64 0, .int .i64 0, .int .i64 0] := by rw [ty76]; rfl
theorem ldp78 (H : Heap) (b o : Nat) : loadV Try.prog H 78 (.ptr b o) = (hget H b).bind fun k => partL { size := 16, bytes := 128, agg := true, k := .struct [(0, 76), (8, 76)], zero := some [.int .i64 0, .int .i64 0, .int .i64 0, .int .i64 0, .int .i64 0, .int .i64 0, .int .i64 0, .int .i64 0, .int .i64 0, .int .i64 0, .int .i64 0, .int .i64 0, .int .i64 0, .int .i64 0, .int .i64 0, .int .i64 0] } k o := load_ptr _ H 78 _ ty78 b o
theorem lde78 (H : Heap) (l : List AV) (o : Nat) : loadV Try.prog H 78 (.ele l o) = partL { size := 16, bytes := 128, agg := true, k := .struct [(0, 76), (8, 76)], zero := some [.int .i64 0, .int .i64 0, .int .i64 0, .int .i64 0, .int .i64 0, .int .i64 0, .int .i64 0, .int .i64 0, .int .i64 0, .int .i64 0, .int .i64 0, .int .i64 0, .int .i64 0, .int .i64 0, .int .i64 0, .int .i64 0] } l o := load_ele _ H 78 _ ty78 l o
theorem pl78 (l : List AV) (o : Nat) (h : o + 16 ≤ l.length) : partL { size := 16, bytes := 128, agg := true, k := .struct [(0, 76), (8, 76)], zero := some [.int .i64 0, .int .i64 0, .int .i64 0, .int .i64 0, .int .i64 0, .int .i64 0, .int .i64 0, .int .i64 0, .int .i64 0, .int .i64 0, .int .i64 0, .int .i64 0, .int .i64 0, .int .i64 0, .int .i64 0, .int .i64 0] } l o = some (.agg ((l.drop o).take 16)) := by rw [partL_agg _ _ _ rfl, if_pos h]
theorem zr78 : (tyOf Try.prog 78).bind (fun ty => ty.zero) = some [.int .i64 0, .int .i64 0, .int .i64 0, .int .i64 0, .int .i64 0, .int .i64 0, .int .i64 0, .int .i64 0, .int .i64 0, .int .i64 0, .int .i64 0, .int .i64 0, .int .i64 0, .int .i64 0, .int .i64 0, .int .i64 0] := by rw [ty78]; rfl
theorem fap78_0 (b o : Nat) : fieldAddrV Try.prog 78 (.ptr b o) 0 = some (.ptr b (o)) := fa_ptr _ 78 _ tk78 b o 0 0 76 _ rfl ty76 (by decide)
theorem fae78_0 (l : List AV) (o : Nat) : fieldAddrV Try.prog 78 (.ele l o) 0 = some (.ele l (o)) := fa_ele _ 78 _ tk78 l o 0 0 76 _ rfl ty76 (by decide)
theorem fd78_0 (l : List AV) : fieldV Try.prog 78 (.agg l) 0 = partL { size := 8, bytes := 64, agg := true, k := .array 8 2, zero := some [.int .i64 0, .int .i64 0, .int .i64 0, .int .i64 0, .int .i64 0, .int .i64 0, .int .i64 0, .int .i64 0] } l 0 := fd_agg _ 78 _ tk78 l 0 0 76 _ rfl ty76
theorem fap78_1 (b o : Nat) : fieldAddrV Try.prog 78 (.ptr b o) 1 = some (.ptr b (o + 8)) := fa_ptr _ 78 _ tk78 b o 1 8 76 _ rfl ty76 (by decide)
theorem fae78_1 (l : List AV) (o : Nat) : fieldAddrV Try.prog 78 (.ele l o) 1 = some (.ele l (o + 8)) := fa_ele _ 78 _ tk78 l o 1 8 76 _ rfl ty76 (by decide)
theorem fd78_1 (l : List AV) : fieldV Try.prog 78 (.agg l) 1 = partL { size := 8, bytes := 64, agg := true, k := .array 8 2, zero := some [.int .i64 0, .int .i64 0, .int .i64 0, .int .i64 0, .int .i64 0, .int .i64 0, .int .i64 0, .int .i64 0] } l 8 := fd_agg _ 78 _ tk78 l 1 8 76 _ rfl ty76
theorem ldp85 (H : Heap) (b o : Nat) : loadV Try.prog H 85 (.ptr b o) = (hget H b).bind fun k => k[o]? := by rw [load_ptr _ H 85 _ ty85 b o]; rfl
theorem lde85 (H : Heap) (l : List AV) (o : Nat) : loadV Try.prog H 85 (.ele l o) = l[o]? := by rw [load_ele _ H 85 _ ty85 l o]; rfl
theorem zr85 : (tyOf Try.prog 85).bind (fun ty => ty.zero) = some [.pointer none] := by rw [ty85]; rfl
theorem ldp88 (H : Heap) (b o : Nat) : loadV Try.prog H 88 (.ptr b o) = (hget H b).bind fun k => k[o]? := by rw [load_ptr _ H 88 _ ty88 b o]; rfl
theorem lde88 (H : Heap) (l : List AV) (o : Nat) : loadV Try.prog H 88 (.ele l o) = l[o]? := by rw [load_ele _ H 88 _ ty88 l o]; rfl
theorem zr88 : (tyOf Try.prog 88).bind (fun ty => ty.zero) = some [.slice none 0 0] := by rw [ty88]; rfl
theorem ias88 (n : Nat) (l : List AV) (k : IntKind) (i : Int) (h0 : 0 ≤ i) (h1 : i < n) : indexAddrV Try.prog 88 (.sl n l) (.v (.int k i)) = some (.ele l (i.toNat)) := by rw [ia_sl _ 88 4 _ tk88 ty4, if_pos ⟨h0, h1⟩]; rw [Nat.mul_one]
theorem iao88 (z b o n : Nat) (k : IntKind) (i : Int) (h0 : 0 ≤ i) (h1 : i < n) : indexAddrV Try.prog 88 (.own z b o n) (.v (.int k i)) = some (.ptr b (o + i.toNat)) := by rw [ia_own _ 88 4 _ tk88 ty4, if_pos ⟨h0, h1⟩]; rw [Nat.mul_one]
theorem lns88 (n : Nat) (l : List AV) : lenV (tyOf Try.prog 88) (.sl n l) = some (.v (.int .i64 n)) := by rw [ty88]; exact len_sl _ 4 _ _ rfl
theorem lno88 (z b o n : Nat) : lenV (tyOf Try.prog 88) (.own z b o n) = some (.v (.int .i64 n)) := by rw [ty88]; exact len_own _ 4 _ _ _ _ rfl
theorem lnn88 (n : Nat) : lenV (tyOf Try.prog 88) (.v (.slice none n 0)) = some (.v (.int .i64 n)) := by rw [ty88]; exact len_nil _ 4 _ rfl

attribute [go_sem] ldp1 lde1 zr1 ldp2 lde2 zr2 ldp3 lde3 zr3 ldp4 lde4 zr4 beq4 bne4 ldp5 lde5 zr5 ldp9 lde9 zr9
  lnt9 ldp22 lde22 zr22 ias22 iao22 lns22 lno22 lnn22 ldp23 lde23 zr23 ias23 iao23 lns23 lno23 lnn23 ldp25 lde25 pl25
  zr25 fap25_0 fae25_0 fd25_0 fap25_1 fae25_1 fd25_1 ldp26 lde26 zr26 ias26 iao26 lns26 lno26 lnn26 ldp27 lde27 pl27 zr27 ldp29
  lde29 zr29 ias29 iao29 lns29 lno29 lnn29 ldp31 lde31 pl31 zr31 fap31_0 fae31_0 fd31_0 fap31_1 fae31_1 fd31_1 ldp32 lde32 zr32
  ias32 iao32 lns32 lno32 lnn32 ldp33 lde33 zr33 ldp36 lde36 zr36 ias36 iao36 lns36 lno36 lnn36 ldp39 lde39 pl39 zr39
  fap39_0 fae39_0 fd39_0 fap39_1 fae39_1 fd39_1 fap39_2 fae39_2 fd39_2 ldp41 lde41 pl41 zr41 fap41_0 fae41_0 fd41_0 fap41_1 fae41_1 fd41_1 fap41_2
  fae41_2 fd41_2 ldp54 lde54 pl54 zr54 fap54_0 fae54_0 fd54_0 fap54_1 fae54_1 fd54_1 ldp65 lde65 pl65 zr65 fap65_0 fae65_0 fd65_0 fap65_1
  fae65_1 fd65_1 ldp68 lde68 pl68 zr68 fap68_0 fae68_0 fd68_0 fap68_1 fae68_1 fd68_1 fap68_2 fae68_2 fd68_2 ldp70 lde70 zr70 ias70 iao70
  lns70 lno70 lnn70 ldp72 lde72 zr72 ldp73 lde73 zr73 ldp75 lde75 zr75 ldp76 lde76 pl76 zr76 ldp78 lde78 pl78 zr78
  fap78_0 fae78_0 fd78_0 fap78_1 fae78_1 fd78_1 ldp85 lde85 zr85 ldp88 lde88 zr88 ias88 iao88 lns88 lno88 lnn88
end Go.Proofs.Ytplockpopmaejaa
end
section
namespace Go.Am
open Go
/-- One block was made, the others are as they were. -/
structure MNew (H H' : Heap) (k : Blk) : Prop where
  len : H'.length = H.length + 1
  new : hget H' H.length = some k
  old : ∀ b, b < H.length → hget H' b = hget H b
/-- One block was written. -/
structure MWrote (H : Heap) (b : Nat) (H' : Heap) (k : Blk) : Prop where
  len : H'.length = H.length
  new : hget H' b = some k
  old : ∀ c, c ≠ b → hget H' c = hget H c
/-- One block was made in place of another one. -/
structure MGrew (H : Heap) (b : Nat) (H' : Heap) (k : Blk) : Prop where
  len : H'.length = H.length + 1
  new : hget H' H.length = some k
  old : ∀ c, c ≠ b → c < H.length → hget H' c = hget H c
theorem MNew.of (H : Heap) (k : Blk) : MNew H (H ++ [some k]) k := ⟨by simp, by simp [hget], fun b hb => hget_low _ _ _ hb⟩
theorem MWrote.of (H : Heap) {b : Nat} (k : Blk) (hb : b < H.length) : MWrote H b (hset H b (some k)) k :=
  ⟨by simp [hset], by simp [hget, hset, hb], fun c hc => by simp [hget, hset, Ne.symm hc]⟩
theorem MGrew.of (H : Heap) (b : Nat) (k : Blk) : MGrew H b (hset H b none ++ [some k]) k :=
  ⟨by simp [hset], by simp [hget, hset], fun c hc hl => by
    rw [hget_low _ _ _ (by simpa [hset] using hl)]
    simp [hget, hset, Ne.symm hc]⟩
theorem MGrew.ofNew {H H' : Heap} {k : Blk} (b : Nat) (h : MNew H H' k) : MGrew H b H' k := ⟨h.len, h.new, fun c _ hl => h.old c hl⟩
section
variable {S : Sig} {lim : Nat} {ops : Array Oper} {l : List Oper} {e : Env} {H : Heap} {K : Env → Heap → Prop} {d : Option Tmp} {ty : TypeId} {pos : String} {af : Array Edge}
theorem A_alloc {t : TypeId} {z : List Value} (hz : (tyOf S.P t).bind (fun ty => ty.zero) = some z) (hk : ∀ H', MNew H H' (z.map .v) → Rp S lim ops l (e.put d (.ptr H.length 0)) H' K) : Rp S lim ops (⟨d, .alloc t, ty, pos, af, none⟩ :: l) e H K :=
  R_alloc hz rfl rfl (hk _ (MNew.of _ _))
theorem A_box {t : TypeId} {x : Operand} {c : List AV} (ht : (tyOf S.P t).isSome = true) (hc : cellsOf (evO e x) = some c) (hk : ∀ H', MNew H H' c → Rp S lim ops l (e.put d (.ptr H.length 0)) H' K) : Rp S lim ops (⟨d, .box t x, ty, pos, af, none⟩ :: l) e H K :=
  R_box ht hc rfl rfl (hk _ (MNew.of _ _))
theorem A_store {t : TypeId} {tyy : Ty} {a x : Operand} {b o : Nat} {c : List AV} {k : Blk} (ht : tyOf S.P t = some tyy) (ha : evO e a = .ptr b o) (hc : cellsOf (evO e x) = some c) (hb : hget H b = some k) (hl : lim ≤ b ∧ c.length = tyy.size ∧ o + tyy.size ≤ k.length) {k' : Blk} (hk' : setL k o c = k')
    (hk : ∀ H', MWrote H b H' k' → Rp S lim ops l (e.put d (.v undef)) H' K) : Rp S lim ops (⟨d, .store t a x, ty, pos, af, none⟩ :: l) e H K :=
  R_store ht ha hc hb hl hk' rfl (hk _ (MWrote.of _ _ (hget_lt hb)))
theorem A_append {x y : Operand} {t : TypeId} {r : AV} {b : Nat} {k : Blk} (h : ∃ H', appendV S.P lim H t (evO e x) (evO e y) = some (r, H') ∧ MGrew H b H' k) (hk : ∀ H', MGrew H b H' k → Rp S lim ops l (e.put d r) H' K) :
    Rp S lim ops (⟨d, .call ⟨.builtin .append, #[x, y], #[t, t]⟩, ty, pos, af, none⟩ :: l) e H K := by
  obtain ⟨H', h1, h2⟩ := h
  exact R_append h1 (hk _ h2)
theorem A_buildSlice {t : TypeId} {n : Nat} {parts : Array (Nat × Operand)} {r : AV} {k : Blk} (h : effV S.P lim (.buildSlice t n parts) (evO e) H = some (r, H ++ [some k])) (hk : ∀ H', MNew H H' k → Rp S lim ops l (e.put d r) H' K) : Rp S lim ops (⟨d, .buildSlice t n parts, ty, pos, af, none⟩ :: l) e H K :=
  R_buildSlice h (hk _ (MNew.of _ _))
theorem A_makeSlice {t : TypeId} {n c : Operand} {r : AV} {k : Blk} (h : effV S.P lim (.makeSlice t n c) (evO e) H = some (r, H ++ [some k])) (hk : ∀ H', MNew H H' k → Rp S lim ops l (e.put d r) H' K) : Rp S lim ops (⟨d, .makeSlice t n c, ty, pos, af, none⟩ :: l) e H K :=
  R_makeSlice h (hk _ (MNew.of _ _))
theorem Rp_env {e' : Env} (h : e = e') (hk : Rp S lim ops l e' H K) : Rp S lim ops l e H K := h ▸ hk
end
theorem wrC_store {R : List Nat} {d : Option Tmp} {ty : TypeId} {pos : String} {af : Array Edge} {g : Option (Nat × Bool)} {t : TypeId} {a x : Operand} {e : Env} {b o : Nat} (h : evO e a = .ptr b o) (hb : b ∉ R) : wrC R ⟨d, .store t a x, ty, pos, af, g⟩ e = true := by
  simp only [wrC, wrV, h]
  simpa using hb
theorem rls2 {S : Sig} {lim : Nat} {dr : List (Nat × Draw)} {loc : Env} {H : Heap} {Q : Ex → St → Prop} {c : Code} {p : List Nat} {id : Nat} {ops : Array Oper} {lead m m2 fin live keep : List Nat} {ms : List (List Nat)} (h : at' c p = .region id ops true) (hd : dr.lookup id = some (.led lead (m :: m2 :: ms) fin live keep))
    (hw : Lp S ops H (fun e _ => Rp S H.length ops (pick ops m) e H (fun e1 H1 => Alts S ops live keep H.length e H e1 H1 (m2 :: ms) ∧
      Rp S lim ops (pick ops fin) (cutE ops live loc e1) (keepOnly keep H.length H1) fun e' H' => Q .normal ⟨trim e' loc, H'⟩)) (pick ops lead) loc []) : W S lim dr (at' c p) ⟨loc, H⟩ Q := by
  rw [h]
  obtain ⟨e, R, h1, hw⟩ := runLead_of_Lp _ _ _ hw
  obtain ⟨n1, e1', H1', h2, ha, hf⟩ := runOps_of_Rp _ _ _ _ hw
  obtain ⟨n2, h3⟩ := altsOK_of _ ha
  obtain ⟨n3, e3, H3, h4, hw⟩ := runOps_of_Rp _ _ _ _ hf
  refine ⟨max n1 (max n2 n3) + 1, .normal, ⟨trim e3 loc, H3⟩, ?_, hw⟩
  simp only [exec, region, if_true, hd, led, h1, runOps_mono (acall_mono S n1 (max n1 (max n2 n3) + 1) (by omega)) _ _ _ _ h2, altsOK_mono (acall_mono S n2 (max n1 (max n2 n3) + 1) (by omega)) _ h3, runOps_mono (acall_mono S n3 (max n1 (max n2 n3) + 1) (by omega)) _ _ _ _ h4, Option.map_some]
theorem rls3 {S : Sig} {lim : Nat} {dr : List (Nat × Draw)} {loc : Env} {H : Heap} {Q : Ex → St → Prop} {c : Code} {p : List Nat} {id : Nat} {ops : Array Oper} {lead mid lead2 m m2 fin live keep : List Nat} {ms : List (List Nat)} (h : at' c p = .region id ops true) (hd : dr.lookup id = some (.led2 lead mid lead2 (m :: m2 :: ms) fin live keep))
    (hw : Lp S ops H (fun e R => Rp S H.length ops (pick ops mid) e H (fun e1 H1 => H1 = H ∧ Lp S ops H (fun e2 _ => Rp S H.length ops (pick ops m) e2 H (fun e3 H3 => Alts S ops live keep H.length e2 H e3 H3 (m2 :: ms) ∧
      Rp S lim ops (pick ops fin) (cutE ops live loc e3) (keepOnly keep H.length H3) fun e' H' => Q .normal ⟨trim e' loc, H'⟩)) (pick ops lead2) e1 R)) (pick ops lead) loc []) : W S lim dr (at' c p) ⟨loc, H⟩ Q := by
  rw [h]
  obtain ⟨e, R, h1, hw⟩ := runLead_of_Lp _ _ _ hw
  obtain ⟨n0, e1, H1, h2, rfl, hw⟩ := runOps_of_Rp _ _ _ _ hw
  obtain ⟨e2, R2, h3, hw⟩ := runLead_of_Lp _ _ _ hw
  obtain ⟨n1, e3, H3, h4, ha, hf⟩ := runOps_of_Rp _ _ _ _ hw
  obtain ⟨n2, h5⟩ := altsOK_of _ ha
  obtain ⟨n3, e4, H4, h6, hw⟩ := runOps_of_Rp _ _ _ _ hf
  refine ⟨max (max n0 n1) (max n2 n3) + 1, .normal, ⟨trim e4 loc, H4⟩, ?_, hw⟩
  simp only [exec, region, if_true, hd, led23, led2, h1, runOps_mono (acall_mono S n0 (max (max n0 n1) (max n2 n3) + 1) (by omega)) _ _ _ _ h2, h3, runOps_mono (acall_mono S n1 (max (max n0 n1) (max n2 n3) + 1) (by omega)) _ _ _ _ h4, altsOK_mono (acall_mono S n2 (max (max n0 n1) (max n2 n3) + 1) (by omega)) _ h5, runOps_mono (acall_mono S n3 (max (max n0 n1) (max n2 n3) + 1) (by omega)) _ _ _ _ h6, Option.map_some]
theorem rl3 {S : Sig} {lim : Nat} {dr : List (Nat × Draw)} {loc : Env} {H : Heap} {Q : Ex → St → Prop} {c : Code} {p : List Nat} {id : Nat} {ops : Array Oper} {lead mid lead2 m fin live keep : List Nat} (h : at' c p = .region id ops true) (hd : dr.lookup id = some (.led2 lead mid lead2 [m] fin live keep)) (hm0 : ¬ mid = [])
    (hw : Lp S ops H (fun e R => Mp S lim ops R (fun e1 H1 => Lp S ops H1 (fun e2 R2 => Mp S lim ops R2 (fun e3 H3 => Rp S lim ops (pick ops fin) e3 H3 fun e' H' => Q .normal ⟨trim e' loc, H'⟩) (pick ops m) e2 H1) (pick ops lead2) e1 []) (pick ops mid) e H) (pick ops lead) loc []) : W S lim dr (at' c p) ⟨loc, H⟩ Q := by
  rw [h]
  obtain ⟨e, R, h1, hw⟩ := runLead_of_Lp _ _ _ hw
  obtain ⟨n0, e1, H1, h2, hw⟩ := runMid_of_Mp _ _ _ hw
  obtain ⟨e2, R2, h3, hw⟩ := runLead_of_Lp _ _ _ hw
  obtain ⟨n2, e3, H3, h5, hf⟩ := runMid_of_Mp _ _ _ hw
  obtain ⟨n3, e4, H4, h6, hw⟩ := runOps_of_Rp _ _ _ _ hf
  refine ⟨max n0 (max n2 n3) + 1, .normal, ⟨trim e4 loc, H4⟩, ?_, hw⟩
  simp only [exec, region, if_true, hd, led23, if_neg hm0, led3, h1, runMid_mono (acall_mono S n0 (max n0 (max n2 n3) + 1) (by omega)) _ _ _ _ h2, h3, runMid_mono (acall_mono S n2 (max n0 (max n2 n3) + 1) (by omega)) _ _ _ _ h5, runOps_mono (acall_mono S n3 (max n0 (max n2 n3) + 1) (by omega)) _ _ _ _ h6, Option.map_some]
theorem rl4 {S : Sig} {lim : Nat} {dr : List (Nat × Draw)} {loc : Env} {H : Heap} {Q : Ex → St → Prop} {c : Code} {p : List Nat} {id : Nat} {ops : Array Oper} {lead lead2 m fin live keep : List Nat} (h : at' c p = .region id ops true) (hd : dr.lookup id = some (.led2 lead [] lead2 [m] fin live keep))
    (hw : Lp S ops H (fun e R => Lp S ops H (fun e2 _ => Mp S lim ops R (fun e3 H3 => Rp S lim ops (pick ops fin) e3 H3 fun e' H' => Q .normal ⟨trim e' loc, H'⟩) (pick ops m) e2 H) (pick ops lead2) e R) (pick ops lead) loc []) : W S lim dr (at' c p) ⟨loc, H⟩ Q := by
  rw [h]
  obtain ⟨e, R, h1, hw⟩ := runLead_of_Lp _ _ _ hw
  obtain ⟨e2, R2, h3, hw⟩ := runLead_of_Lp _ _ _ hw
  obtain ⟨n2, e3, H3, h5, hf⟩ := runMid_of_Mp _ _ _ hw
  obtain ⟨n3, e4, H4, h6, hw⟩ := runOps_of_Rp _ _ _ _ hf
  refine ⟨max n2 n3 + 1, .normal, ⟨trim e4 loc, H4⟩, ?_, hw⟩
  simp only [exec, region, if_true, hd, led23, led4, h1, h3, runMid_mono (acall_mono S n2 (max n2 n3 + 1) (by omega)) _ _ _ _ h5, runOps_mono (acall_mono S n3 (max n2 n3 + 1) (by omega)) _ _ _ _ h6, Option.map_some]
/-- Two blocks that are made in either order. -/
theorem two_same {H : Heap} {live : List Nat} {e0 e1 : Env} {A B : Blk} (hA : ∀ f, A.map (ren f 8) = A) (hB : ∀ f, B.map (ren f 8) = B)
    (hl : ∀ t ∈ live, (ren (rnB H.length [1, 0]) 8 (e1.get t)) = e0.get t) : SameUp H.length live [0, 1] e0 (H ++ [some A] ++ [some B]) e1 (H ++ [some B] ++ [some A]) := by
  refine ⟨[1, 0], by simp, by simp, by simp, by decide, by decide, by decide, hl, ?_⟩
  intro k hk
  simp only [List.mem_cons, List.not_mem_nil, or_false] at hk
  rcases hk with rfl | rfl
  · simp [hget, hA]
  · simp [hget, hB]
theorem two_id {H : Heap} {live : List Nat} {e0 e1 : Env} {A B : Blk} (hA : ∀ f, A.map (ren f 8) = A) (hB : ∀ f, B.map (ren f 8) = B)
    (hl : ∀ t ∈ live, (ren (rnB H.length [0, 1]) 8 (e1.get t)) = e0.get t) : SameUp H.length live [0, 1] e0 (H ++ [some A] ++ [some B]) e1 (H ++ [some A] ++ [some B]) := by
  refine ⟨[0, 1], by simp, by simp, by simp, by decide, by decide, by decide, hl, ?_⟩
  intro k hk
  simp only [List.mem_cons, List.not_mem_nil, or_false] at hk
  rcases hk with rfl | rfl
  · simp [hget, hA]
  · simp [hget, hB]
theorem keep_two (H : Heap) (A B : Option Blk) : keepOnly [0, 1] H.length (H ++ [A] ++ [B]) = H ++ [A] ++ [B] := by
  unfold keepOnly
  apply List.ext_getElem?
  intro i
  rw [List.getElem?_mapIdx]
  by_cases h : i < H.length
  · simp [h]
  · by_cases h2 : i < (H ++ [A] ++ [B]).length
    · have : i - H.length = 0 ∨ i - H.length = 1 := by simp at h2; omega
      rcases this with h3 | h3 <;> simp [h3]
    · rw [List.getElem?_eq_none (by omega)]; rfl
end Go.Am
end
section
set_option linter.unusedVariables false
set_option linter.unusedSimpArgs false
namespace Go.Proofs.Ytplockpopmaejaa
open Go Go.Am

theorem cut_of {F : List AV} {C : List AV} {z o : Nat} (hC : C.length = z) (h : ∀ k, k < z → F[o + k]? = C[k]?) : (F.drop o).take z = C := by
  apply List.ext_getElem?
  intro j
  rw [List.getElem?_take, List.getElem?_drop]
  by_cases hj : j < z
  · rw [if_pos hj, h j hj]
  · rw [if_neg hj, List.getElem?_eq_none (by omega)]
/-- Rows of records of z cells. -/
theorem rec_len {α : Type} {f : α → List AV} {z : Nat} (hf : ∀ d, (f d).length = z) (l : List α) : (l.map f).flatten.length = l.length * z := by
  induction l with
  | nil => simp
  | cons s l ih => rw [List.map_cons, List.flatten_cons, List.length_append, ih, hf, List.length_cons, Nat.add_mul]; omega
theorem rec_get {α : Type} [Inhabited α] {f : α → List AV} {z : Nat} (hf : ∀ d, (f d).length = z) : ∀ (l : List α) (u k : Nat), u < l.length → k < z → (l.map f).flatten[u * z + k]? = (f (gt l u))[k]?
  | [], u, k, h, _ => by simp at h
  | s :: l, 0, k, _, hk => by
    rw [List.map_cons, List.flatten_cons, Nat.zero_mul, Nat.zero_add, List.getElem?_append_left (by rw [hf]; exact hk)]
    rfl
  | s :: l, u + 1, k, h, hk => by
    have ih := rec_get hf l u k (by simpa using h) hk
    rw [List.map_cons, List.flatten_cons, List.getElem?_append_right (by rw [hf, Nat.add_mul]; omega)]
    rw [show (u + 1) * z + k - (f s).length = u * z + k by rw [hf, Nat.add_mul]; omega, ih]
    rfl
theorem rec_cut {α : Type} [Inhabited α] {f : α → List AV} {z : Nat} (hf : ∀ d, (f d).length = z) (l : List α) (u : Nat) (h : u < l.length) : (((l.map f).flatten).drop (u * z)).take z = f (gt l u) :=
  cut_of (hf _) fun k hk => rec_get hf l u k h hk

structure Oc where
  r : Int
  k : Bool
  w : Int
deriving DecidableEq
instance : Inhabited Oc := ⟨⟨0, false, 0⟩⟩
abbrev ocC (o : Oc) : List AV := [AV.i o.r, .v (.bool o.k), AV.i o.w]
def flatO (l : List Oc) : List AV := (l.map ocC).flatten
abbrev ocsAV (l : List Oc) : AV := .sl l.length (flatO l)
theorem flatO_len (l : List Oc) : (flatO l).length = l.length * 3 := rec_len (f := ocC) (z := 3) (fun _ => rfl) l
theorem flatO0 (l : List Oc) (u : Nat) (h : u < l.length) : (flatO l)[u * 3]? = some (AV.i (gt l u).r) := rec_get (f := ocC) (z := 3) (fun _ => rfl) l u 0 h (by omega)
theorem flatO1 (l : List Oc) (u : Nat) (h : u < l.length) : (flatO l)[u * 3 + 1]? = some (.v (.bool (gt l u).k)) := rec_get (f := ocC) (z := 3) (fun _ => rfl) l u 1 h (by omega)
theorem flatO2 (l : List Oc) (u : Nat) (h : u < l.length) : (flatO l)[u * 3 + 2]? = some (AV.i (gt l u).w) := rec_get (f := ocC) (z := 3) (fun _ => rfl) l u 2 h (by omega)
theorem ld_oc (l : List Oc) (u : Nat) (h : u < l.length) : partL { size := 3, bytes := 24, agg := true, k := .struct [(0, 3), (1, 4), (2, 2)], zero := some [.int .i64 0, .bool false, .int .i64 0] } (flatO l) (u * 3) = some (.agg (ocC (gt l u))) := by
  rw [pl68 _ _ (by rw [flatO_len]; omega)]
  exact congrArg (fun z => some (AV.agg z)) (rec_cut (f := ocC) (z := 3) (fun _ => rfl) l u h)
structure Bt where
  nm : ByteArray
  ds : List Oc
instance : Inhabited Bt := ⟨⟨⟨#[]⟩, []⟩⟩
abbrev btC (b : Bt) : List AV := [.v (.string b.nm), ocsAV b.ds]
def flatB (l : List Bt) : List AV := (l.map btC).flatten
abbrev btsAV (l : List Bt) : AV := .sl l.length (flatB l)
theorem flatB_len (l : List Bt) : (flatB l).length = l.length * 2 := rec_len (f := btC) (z := 2) (fun _ => rfl) l
theorem flatB0 (l : List Bt) (u : Nat) (h : u < l.length) : (flatB l)[u * 2]? = some (.v (.string (gt l u).nm)) := rec_get (f := btC) (z := 2) (fun _ => rfl) l u 0 h (by omega)
theorem flatB1 (l : List Bt) (u : Nat) (h : u < l.length) : (flatB l)[u * 2 + 1]? = some (ocsAV (gt l u).ds) := rec_get (f := btC) (z := 2) (fun _ => rfl) l u 1 h (by omega)
theorem ld_bt (l : List Bt) (u : Nat) (h : u < l.length) : partL { size := 2, bytes := 40, agg := true, k := .struct [(0, 9), (1, 29)], zero := some [.string ⟨#[]⟩, .slice none 0 0] } (flatB l) (u * 2) = some (.agg (btC (gt l u))) := by
  rw [pl31 _ _ (by rw [flatB_len]; omega)]
  exact congrArg (fun z => some (AV.agg z)) (rec_cut (f := btC) (z := 2) (fun _ => rfl) l u h)
structure Bw where
  nm : ByteArray
  sh : Int
instance : Inhabited Bw := ⟨⟨⟨#[]⟩, 0⟩⟩
abbrev bwC (b : Bw) : List AV := [.v (.string b.nm), AV.i b.sh]
def flatW (l : List Bw) : List AV := (l.map bwC).flatten
abbrev bwsAV (l : List Bw) : AV := .sl l.length (flatW l)
theorem flatW_len (l : List Bw) : (flatW l).length = l.length * 2 := rec_len (f := bwC) (z := 2) (fun _ => rfl) l
theorem flatW0 (l : List Bw) (u : Nat) (h : u < l.length) : (flatW l)[u * 2]? = some (.v (.string (gt l u).nm)) := rec_get (f := bwC) (z := 2) (fun _ => rfl) l u 0 h (by omega)
theorem flatW1 (l : List Bw) (u : Nat) (h : u < l.length) : (flatW l)[u * 2 + 1]? = some (AV.i (gt l u).sh) := rec_get (f := bwC) (z := 2) (fun _ => rfl) l u 1 h (by omega)
theorem ld_bw (l : List Bw) (u : Nat) (h : u < l.length) : partL { size := 2, bytes := 24, agg := true, k := .struct [(0, 9), (1, 3)], zero := some [.string ⟨#[]⟩, .int .i64 0] } (flatW l) (u * 2) = some (.agg (bwC (gt l u))) := by
  rw [pl65 _ _ (by rw [flatW_len]; omega)]
  exact congrArg (fun z => some (AV.agg z)) (rec_cut (f := bwC) (z := 2) (fun _ => rfl) l u h)
attribute [go_sem] flatO0 flatO1 flatO2 ld_oc flatB0 flatB1 ld_bt flatW0 flatW1 ld_bw
abbrev intsAV (l : List Int) : AV := .sl l.length (l.map AV.i)

/-! ### The first nonzero of a row -/
def ferr (f : Nat → Int) : Nat → Int
  | 0 => 0
  | n + 1 => if ferr f n ≠ 0 then ferr f n else f n
theorem ferr_at {f : Nat → Int} {u : Nat} (h : ferr f u = 0) (hf : f u ≠ 0) : ∀ n, u < n → ferr f n = f u
  | 0, hn => by omega
  | n + 1, hn => by
    unfold ferr
    by_cases hu : u = n
    · subst hu; rw [if_neg (by simp [h])]
    · rw [ferr_at h hf n (by omega), if_pos hf]
theorem ferr_ok {f : Nat → Int} {u : Nat} (h : ferr f u = 0) (hf : f u = 0) : ferr f (u + 1) = 0 := by
  unfold ferr
  rw [if_neg (by simp [h]), hf]
theorem ferr_all {f : Nat → Int} : ∀ {n : Nat}, ferr f n = 0 → ∀ i, i < n → f i = 0
  | 0, _, i, hi => by omega
  | n + 1, h, i, hi => by
    unfold ferr at h
    by_cases h0 : ferr f n ≠ 0
    · rw [if_pos h0] at h; exact absurd h h0
    · rw [if_neg h0] at h
      by_cases hn : i = n
      · subst hn; exact h
      · exact ferr_all (Decidable.not_not.mp h0) i (by omega)
/-- The first of n numbers of which p holds, -1 if there is none. -/
def fidx (p : Nat → Bool) (n : Nat) : Int := match (List.range n).find? p with | some v => (v : Int) | none => -1
theorem fidx_hit {p : Nat → Bool} {n v : Nat} (hv : v < n) (h : ∀ k, k < v → p k = false) (hz : p v = true) : fidx p n = v := by
  have e : (List.range n).find? p = some v := by
    rw [List.find?_range_eq_some]
    exact ⟨hz, List.mem_range.2 hv, fun k hk => by simp [h k hk]⟩
  rw [fidx, e]
theorem fidx_miss {p : Nat → Bool} {n v : Nat} (hv : n ≤ v) (h : ∀ k, k < v → p k = false) : fidx p n = -1 := by
  have e : (List.range n).find? p = none := by
    rw [List.find?_eq_none]
    intro k hk
    simp [h k (by have := List.mem_range.1 hk; omega)]
  rw [fidx, e]
theorem all_step {p : Nat → Prop} {u : Nat} (h : ∀ i, i < u → p i) (hu : p u) : ∀ i, i < u + 1 → p i := fun i hi => by
  by_cases hiu : i = u
  · subst hiu; exact hu
  · exact h i (by omega)
theorem fidx_some {p : Nat → Bool} {n : Nat} : fidx p n = -1 ∧ (∀ k, k < n → p k = false) ∨ ∃ v, v < n ∧ fidx p n = v ∧ p v = true ∧ ∀ k, k < v → p k = false := by
  cases h : (List.range n).find? p with
  | none =>
    refine .inl ⟨by rw [fidx, h], fun k hk => ?_⟩
    have := List.find?_eq_none.1 h k (List.mem_range.2 hk)
    simpa using this
  | some v =>
    have e := h
    rw [List.find?_range_eq_some] at h
    exact .inr ⟨v, List.mem_range.1 h.2.1, by rw [fidx, e], h.1, fun k hk => by simpa using h.2.2 k hk⟩

/-! ### Names -/
def bt (s : ByteArray) (i : Nat) : Int := ((s.data[i]?.getD 0).toNat : Int)
def badN (s : ByteArray) (i : Nat) : Prop := ¬ (65 ≤ bt s i ∧ bt s i ≤ 90) ∧ (i = 0 ∨ (bt s i ≠ 95 ∧ bt s i ≠ 45 ∧ (bt s i < 48 ∨ 57 < bt s i)))
instance (s : ByteArray) (i : Nat) : Decidable (badN s i) := by unfold badN; infer_instance
def nameS (s : ByteArray) : Bool := decide (1 ≤ s.size ∧ s.size ≤ 16 ∧ ∀ i, i < s.size → ¬ badN s i)
theorem name_bad {s : ByteArray} {i : Nat} (hi : i < s.size) (h : badN s i) : nameS s = false := by
  unfold nameS
  exact decide_eq_false fun hh => hh.2.2 i hi h
theorem name_len {s : ByteArray} (h : ¬ (1 ≤ s.size ∧ s.size ≤ 16)) : nameS s = false := by
  unfold nameS
  exact decide_eq_false fun hh => h ⟨hh.1, hh.2.1⟩
theorem name_ok {s : ByteArray} (h1 : 1 ≤ s.size) (h2 : s.size ≤ 16) (h : ∀ i, i < s.size → ¬ badN s i) : nameS s = true := by
  unfold nameS
  exact decide_eq_true ⟨h1, h2, h⟩
theorem bt_ld (s : ByteArray) (i : Nat) (h : i < s.size) : (s.data.toList.map (fun c => AV.v (.int .u8 (c.toNat : Int))))[i]? = some (.v (.int .u8 (bt s i))) := by
  have h' : i < s.data.size := h
  rw [List.getElem?_map, Array.getElem?_toList]
  unfold bt
  rw [Array.getElem?_eq_getElem h']
  rfl
theorem str_nil (s : ByteArray) : (s.toList == ByteArray.toList ⟨#[]⟩) = decide (s.size = 0) := by
  rw [Bool.eq_iff_iff]
  simp only [beq_iff_eq, decide_eq_true_eq]
  constructor
  · intro h
    have e : s.data.toList = [] := by
      rw [ByteArray.toList_eq, ByteArray.toList_eq] at h
      exact h
    have := congrArg List.length e
    simpa using this
  · intro h
    have : s = ⟨#[]⟩ := by
      cases s with | mk d => congr; exact Array.eq_empty_of_size_eq_zero h
    rw [this]
theorem str_e (s : ByteArray) : s.toList = ByteArray.toList ⟨#[]⟩ ↔ s.size = 0 := by
  have h := str_nil s
  rw [Bool.eq_iff_iff] at h
  simpa using h
theorem cv70 (s : ByteArray) : convV Try.prog 9 70 (.v (.string s)) = none := by
  simp only [convV, tk70]
  cases tyOf Try.prog 9 <;> rfl
theorem tk5u : tk Try.prog 5 = some (.int .u8) := by rw [tk, ty5]; rfl
theorem ix_str (s : ByteArray) (u : Nat) (h : u < s.size) : indexV Try.prog 9 (.v (.string s)) (AV.i u) = some (.v (.int .u8 (bt s u))) := by
  have t9 : tk Try.prog 9 = some .string := by rw [tk, ty9]; rfl
  simp only [indexV, t9]
  rw [if_pos ⟨by omega, by simpa using h⟩]
  rfl
def eqB (a b : ByteArray) : Bool := a.toList == b.toList

/-! ### Distributions -/
def ltO (a b : Oc) : Prop := a.r < b.r ∨ (a.r = b.r ∧ a.k = false ∧ b.k = true)
instance (a b : Oc) : Decidable (ltO a b) := by unfold ltO; infer_instance
def cmO (a b : Oc) : Int := if a.r ≠ b.r then (if a.r < b.r then -1 else 1) else if a.k = b.k then 0 else if b.k then -1 else 1
theorem cmO_lt (a b : Oc) : 0 ≤ cmO a b ↔ ¬ ltO a b := by
  unfold cmO ltO
  by_cases h : a.r = b.r
  · rw [if_neg (fun hh => hh h)]
    cases a.k <;> cases b.k <;> simp [h]
  · rw [if_pos h]
    by_cases h2 : a.r < b.r
    · simp [h2]
    · simp [h2, h]
def rgO (o : Oc) : Prop := o.r < 0 ∨ 7 < o.r ∨ o.w < 1 ∨ 16 < o.w
instance (o : Oc) : Decidable (rgO o) := by unfold rgO; infer_instance
def stE (d : List Oc) (u : Nat) : Int := if rgO (gt d u) then 2 else if 0 < u ∧ ¬ ltO (gt d (u - 1)) (gt d u) then 8 else 0
theorem stE_0 {d : List Oc} {u : Nat} (h1 : ¬ rgO (gt d u)) (h2 : u = 0 ∨ ltO (gt d (u - 1)) (gt d u)) : stE d u = 0 := by
  rw [stE, if_neg h1, if_neg]
  rintro ⟨h3, h4⟩
  rcases h2 with h2 | h2
  · omega
  · exact h4 h2
theorem stE_8 {d : List Oc} {u : Nat} (h1 : ¬ rgO (gt d u)) (h0 : 0 < u) (h2 : ¬ ltO (gt d (u - 1)) (gt d u)) : stE d u = 8 := by
  rw [stE, if_neg h1, if_pos ⟨h0, h2⟩]
theorem stE_2 {d : List Oc} {u : Nat} (h1 : rgO (gt d u)) : stE d u = 2 := by rw [stE, if_pos h1]
theorem cmO_ne {a b : Oc} (h : ¬ a.r = b.r) : AV.i (if a.r < b.r then -1 else if b.r < a.r then 1 else 0) = AV.i (cmO a b) := by
  rw [cmO, if_pos h]
  by_cases h2 : a.r < b.r
  · rw [if_pos h2, if_pos h2]
  · rw [if_neg h2, if_neg h2, if_pos (by omega)]
theorem cmO_neg {a b : Oc} (h : cmO a b < 0) : ltO a b := Decidable.not_not.1 fun hh => by have := (cmO_lt a b).2 hh; omega
theorem cmO_of_lt {a b : Oc} (h : ltO a b) : cmO a b < 0 := by
  apply Int.not_le.1
  intro hh
  exact (cmO_lt a b).1 hh h
theorem cmO_nn {a b : Oc} (h : 0 ≤ cmO a b) : ¬ ltO a b := (cmO_lt a b).1 h
def sW (d : List Oc) : Nat → Int
  | 0 => 0
  | u + 1 => sW d u + (gt d u).w
def chkD (d : List Oc) : Int := if d.length = 0 then 6 else if 16 < d.length then 9 else if ferr (stE d) d.length ≠ 0 then ferr (stE d) d.length else if sW d d.length ≠ 16 then 12 else 0
theorem stE_ok {d : List Oc} {u : Nat} (h : stE d u = 0) : (0 ≤ (gt d u).r ∧ (gt d u).r ≤ 7 ∧ 1 ≤ (gt d u).w ∧ (gt d u).w ≤ 16) ∧ (0 < u → ltO (gt d (u - 1)) (gt d u)) := by
  unfold stE at h
  split at h
  · cases h
  · rename_i h1
    split at h
    · cases h
    · rename_i h2
      unfold rgO at h1
      exact ⟨by omega, fun hu => Decidable.not_not.1 fun hh => h2 ⟨hu, hh⟩⟩
theorem sW_box {d : List Oc} : ∀ {u : Nat}, ferr (stE d) u = 0 → 0 ≤ sW d u ∧ sW d u ≤ 16 * u
  | 0, _ => ⟨Int.le_refl _, by simp [sW]⟩
  | u + 1, h => by
    have h1 := ferr_all h u (by omega)
    have h2 : ferr (stE d) u = 0 := by
      unfold ferr at h
      by_cases h0 : ferr (stE d) u ≠ 0
      · rw [if_pos h0] at h; exact h
      · exact Decidable.not_not.1 h0
    have h3 := sW_box h2
    have h4 := (stE_ok h1).1
    rw [sW]
    omega
theorem chkD_of {d : List Oc} (h : chkD d = 0) : 0 < d.length ∧ d.length ≤ 16 ∧ ferr (stE d) d.length = 0 ∧ sW d d.length = 16 := by
  unfold chkD at h
  by_cases h1 : d.length = 0
  · rw [if_pos h1] at h; cases h
  · rw [if_neg h1] at h
    by_cases h2 : 16 < d.length
    · rw [if_pos h2] at h; cases h
    · rw [if_neg h2] at h
      by_cases h3 : ferr (stE d) d.length ≠ 0
      · rw [if_pos h3] at h; exact absurd h h3
      · rw [if_neg h3] at h
        by_cases h4 : sW d d.length ≠ 16
        · rw [if_pos h4] at h; cases h
        · exact ⟨by omega, by omega, Decidable.not_not.1 h3, Decidable.not_not.1 h4⟩
def mS (d : List Oc) : Nat → Int
  | 0 => 0
  | u + 1 => mS d u + (gt d u).r * (gt d u).w
theorem mS_box {d : List Oc} : ∀ {u : Nat}, ferr (stE d) u = 0 → 0 ≤ mS d u ∧ mS d u ≤ 112 * u
  | 0, _ => ⟨Int.le_refl _, by simp [mS]⟩
  | u + 1, h => by
    have h1 := ferr_all h u (by omega)
    have h2 : ferr (stE d) u = 0 := by
      unfold ferr at h
      by_cases h0 : ferr (stE d) u ≠ 0
      · rw [if_pos h0] at h; exact h
      · exact Decidable.not_not.1 h0
    have h3 := mS_box h2
    have h4 := (stE_ok h1).1
    have h5 := Int.mul_le_mul h4.2.1 h4.2.2.2 (by omega) (by omega)
    have h6 := Int.mul_nonneg h4.1 (by omega : 0 ≤ (gt d u).w)
    rw [mS]
    omega
def meanS (d : List Oc) : Int × Int := if chkD d ≠ 0 then (0, chkD d) else (mS d d.length, 0)
theorem mean_box (d : List Oc) : 0 ≤ (meanS d).1 ∧ (meanS d).1 ≤ 2000 := by
  unfold meanS
  by_cases h : chkD d ≠ 0
  · rw [if_pos h]; exact ⟨Int.le_refl _, by show (0 : Int) ≤ 2000; omega⟩
  · rw [if_neg h]
    obtain ⟨h1, h2, h3, h4⟩ := chkD_of (Decidable.not_not.1 h)
    have := mS_box h3
    exact ⟨this.1, by show mS d d.length ≤ 2000; omega⟩

/-! ### Models -/
def idxB (l : List Bt) (nm : ByteArray) : Int := fidx (fun u => eqB (gt l u).nm nm) l.length
def idxW (l : List Bw) (nm : ByteArray) : Int := fidx (fun u => eqB (gt l u).nm nm) l.length
def btE (l : List Bt) (u : Nat) : Int := if nameS (gt l u).nm = false then 5 else if idxB l (gt l u).nm < u then 7 else chkD (gt l u).ds
def bwE (l : List Bw) (u : Nat) : Int := if nameS (gt l u).nm = false then 5 else if idxW l (gt l u).nm < u then 7 else if (gt l u).sh < -12 ∨ 12 < (gt l u).sh then 2 else 0
def chkM (l : List Bt) (m : List Bw) : Int :=
  if l.length = 0 ∨ m.length = 0 then 6 else if 11 < l.length ∨ 11 < m.length then 9 else if ferr (btE l) l.length ≠ 0 then ferr (btE l) l.length else ferr (bwE m) m.length
theorem chkM_of {l : List Bt} {m : List Bw} (h : chkM l m = 0) : 0 < l.length ∧ 0 < m.length ∧ l.length ≤ 11 ∧ m.length ≤ 11 ∧ (∀ u, u < l.length → chkD (gt l u).ds = 0) ∧ (∀ u, u < m.length → -12 ≤ (gt m u).sh ∧ (gt m u).sh ≤ 12) := by
  unfold chkM at h
  by_cases h1 : l.length = 0 ∨ m.length = 0
  · rw [if_pos h1] at h; cases h
  · rw [if_neg h1] at h
    by_cases h2 : 11 < l.length ∨ 11 < m.length
    · rw [if_pos h2] at h; cases h
    · rw [if_neg h2] at h
      by_cases h3 : ferr (btE l) l.length ≠ 0
      · rw [if_pos h3] at h; exact absurd h h3
      · rw [if_neg h3] at h
        refine ⟨by omega, by omega, by omega, by omega, fun u hu => ?_, fun u hu => ?_⟩
        · have := ferr_all (Decidable.not_not.1 h3) u hu
          unfold btE at this
          split at this
          · cases this
          · split at this
            · cases this
            · exact this
        · have := ferr_all h u hu
          unfold bwE at this
          split at this
          · cases this
          · split at this
            · cases this
            · split at this
              · cases this
              · omega
end Go.Proofs.Ytplockpopmaejaa
end
section
set_option linter.unusedVariables false
set_option linter.unusedSimpArgs false
namespace Go.Proofs.Ytplockpopmaejaa
open Go Go.Am
abbrev nilO : AV := .v (.slice none 0 0)
abbrev wC (w : List Int) : List AV := w.map AV.i
theorem setW (l : List Int) (o : Nat) (x : Int) : setL (wC l) o [AV.i x] = wC (l.set o x) := by
  rw [setL_one]; exact (List.map_set ..).symm
theorem wC_at (w : List Int) (i : Nat) (h : i < w.length) : (wC w)[i]? = some (AV.i (gt w i)) := by
  rw [wC, List.getElem?_map, List.getElem?_eq_getElem h]
  simp [gt, h]

theorem iap76 (b o : Nat) (k : IntKind) (i : Int) (h0 : 0 ≤ i) (h1 : i < 8) : indexAddrV Try.prog 76 (.ptr b o) (.v (.int k i)) = some (.ptr b (o + i.toNat)) := by
  rw [ia_ptr _ 76 2 _ 8 tk76 ty2, if_pos ⟨h0, h1⟩]; rw [Nat.mul_one]
attribute [go_sem] iap76
theorem flatO_app (l : List Oc) (s : Oc) : flatO (l ++ [s]) = flatO l ++ ocC s := by
  unfold flatO
  rw [List.map_append, List.flatten_append]
  simp
theorem flatO_st (l : List Oc) : (flatO l).all storable = true := by
  induction l with
  | nil => rfl
  | cons s l ih =>
    have e : flatO (s :: l) = ocC s ++ flatO l := rfl
    rw [e, List.all_append, ih]; rfl
theorem ren_flat (f : Nat → Nat) (l : List Oc) : (flatO l).map (ren f 8) = flatO l := by
  unfold flatO
  rw [List.map_flatten, List.map_map]
  congr 1
theorem bs29e (lim : Nat) (H : Heap) (ev : Operand → AV) : effV Try.prog lim (.buildSlice 29 0 #[]) ev H = some (.own 3 H.length 0 0, H ++ [some []]) := by
  simp only [effV, tk29, ty68]
  rw [if_pos ⟨rfl, by decide, by decide⟩]
  rfl
theorem bs29 (lim : Nat) (H : Heap) (x : Operand) (ev : Operand → AV) (s : Oc) (h : ev x = .agg (ocC s)) :
    effV Try.prog lim (.buildSlice 29 1 #[(0, x)]) ev H = some (.own 3 H.length 0 1, H ++ [some (ocC s)]) := by
  simp only [effV, tk29, ty68]
  rw [if_pos ⟨rfl, by decide, by decide⟩]
  simp only [List.map_cons, List.map_nil, h]
  rfl
theorem app29e {lim : Nat} {H : Heap} {b : Nat} {l : List Oc} (hb : hget H b = some []) (hl : lim ≤ b) (hm : l.length ≤ 1000000) :
    appendV Try.prog lim H 29 (.own 3 b 0 0) (ocsAV l) = some (.own 3 H.length 0 l.length, hset H b none ++ [some (flatO l)]) := by
  simp only [appendV, tk29, ty68, srcCells, hb]
  rw [if_pos (by rw [flatO_len]; omega)]
  simp only
  rw [if_pos ⟨rfl, by decide, by rw [List.take_of_length_le (by rw [flatO_len]; omega)]; exact flatO_st l⟩]
  simp only [List.drop_nil, List.take_nil, List.nil_append, Nat.zero_add]
  rw [if_pos ⟨hl, trivial, by simp, by omega, by omega⟩, List.take_of_length_le (by rw [flatO_len]; omega)]
theorem app29s {lim : Nat} {H : Heap} {b c : Nat} {l : List Oc} {s : Oc} (hb : hget H b = some (flatO l)) (hc : hget H c = some (ocC s)) (hl : lim ≤ b) (hm : l.length ≤ 1000000) :
    appendV Try.prog lim H 29 (.own 3 b 0 l.length) (.own 3 c 0 1) = some (.own 3 H.length 0 (l.length + 1), hset H b none ++ [some (flatO (l ++ [s]))]) := by
  simp only [appendV, tk29, ty68, srcCells, hb, hc]
  rw [if_pos (by simp)]
  simp only [List.length_cons, List.length_nil]
  rw [if_pos ⟨trivial, by decide, rfl⟩]
  simp only [List.drop_zero, flatO_len]
  rw [if_pos ⟨hl, trivial, by omega, by omega, by omega⟩]
  rw [List.take_of_length_le (by rw [flatO_len]; omega), flatO_app]
  rfl
theorem frz_own3 {H : Heap} {b n d : Nat} {l : List Oc} (hb : hget H b = some (flatO l)) (hn : n = l.length) : frz H 0 (d + 2) (.own 3 b 0 n) = ocsAV l := by
  subst hn
  have h0 : ¬ b < 0 := by omega
  simp only [frz, if_neg h0, hb, List.drop_zero]
  congr 1
  unfold flatO
  rw [List.map_flatten, List.map_map]
  congr 1
theorem keep_all {l : List Nat} {n : Nat} {H : Heap} (h : ∀ i, i < H.length → i < n ∨ (i - n) ∈ l) : keepOnly l n H = H := by
  unfold keepOnly
  apply List.ext_getElem?
  intro i
  rw [List.getElem?_mapIdx]
  by_cases hi : i < H.length
  · rw [List.getElem?_eq_getElem hi, Option.map_some, if_pos (h i hi)]
  · rw [List.getElem?_eq_none (by omega)]; rfl
theorem ren_stops (f : Nat → Nat) (d : Nat) (l : List Oc) : ren f (d + 2) (ocsAV l) = ocsAV l := by
  show AV.sl l.length ((flatO l).map (ren f (d + 1))) = _
  congr 1
  unfold flatO
  rw [List.map_flatten, List.map_map]
  congr 1
def OutO (lo : Nat) (H : Heap) (o : AV) (w : List Oc) : Prop := (w = [] ∧ o = .v (.slice none 0 0)) ∨ (w ≠ [] ∧ ∃ b, o = .own 3 b 0 w.length ∧ lo ≤ b ∧ hget H b = some (flatO w))
theorem OutO.mono {lo : Nat} {H H' : Heap} {o : AV} {w : List Oc} (h : OutO lo H o w) (hh : ∀ b, lo ≤ b → ∀ k, hget H b = some k → hget H' b = some k) : OutO lo H' o w := by
  rcases h with h | ⟨h0, b, h1, h2, h3⟩
  · exact .inl h
  · exact .inr ⟨h0, b, h1, h2, hh b h2 _ h3⟩
theorem OutO.lt {lo b : Nat} {H : Heap} {o : AV} {w : List Oc} (h : OutO lo H o w) (ho : o = .own 3 b 0 w.length) : b < H.length := by
  rcases h with ⟨_, h⟩ | ⟨_, b', h1, _, h3⟩
  · rw [h] at ho; cases ho
  · rw [h1] at ho; cases ho; exact hget_lt h3
theorem OutO.len {lo : Nat} {H : Heap} {o : AV} {w : List Oc} (h : OutO lo H o w) : lenV (tyOf Try.prog 29) o = some (AV.i (w.length : Nat)) := by
  rcases h with ⟨rfl, rfl⟩ | ⟨h0, b, rfl, _⟩
  · simp only [lenV, ty29, kOf, Option.map_some]; rfl
  · simp only [lenV, ty29, kOf, Option.map_some]
theorem outO_append {lim lo hi : Nat} {H : Heap} {o : AV} {w : List Oc} {s : Oc} {b' : Nat} (h : OutO lo H o w) (hob : ∀ b, o = .own 3 b 0 w.length → b < hi) (hc : hget H b' = some (ocC s)) (hl : lim ≤ lo) (hlo : lo ≤ H.length) (hw : w.length ≤ 100000) :
    ∃ b, lo ≤ b ∧ (b < hi ∨ b = H.length) ∧ ∃ H', appendV Try.prog lim H 29 o (.own 3 b' 0 1) = some (.own 3 H.length 0 (w.length + 1), H') ∧ MGrew H b H' (flatO (w ++ [s])) := by
  rcases h with ⟨rfl, rfl⟩ | ⟨h0, b, rfl, h2, h3⟩
  · refine ⟨H.length, hlo, .inr rfl, _, ?_, MGrew.ofNew _ (MNew.of _ _)⟩
    simp only [appendV, tk29, ty68, srcCells, hc]
    rw [if_pos (by simp)]
    simp only [List.length_cons, List.length_nil]
    rw [if_pos ⟨trivial, by decide, rfl⟩]
    rw [if_pos ⟨by omega, by omega⟩]
    rfl
  · refine ⟨b, h2, .inl (hob b rfl), _, ?_, MGrew.of _ _ _⟩
    have := app29s (lim := lim) h3 hc (by omega) (by omega)
    exact this
def outO (w : List Oc) : AV := if w = [] then nilO else ocsAV w
theorem frz_flatO (H : Heap) (b d : Nat) (l : List Oc) : (flatO l).map (frz H b (d + 1)) = flatO l := by
  unfold flatO
  rw [List.map_flatten, List.map_map]
  congr 1
theorem frz_own3' {H : Heap} {base d z b o n : Nat} {k : Blk} (hb : ¬ b < base) (hk : hget H b = some k) : frz H base (d + 1) (.own z b o n) = .sl n ((k.drop o).map (frz H base d)) := by
  simp [frz, hb, hk]
theorem frz_stops (H : Heap) (b d : Nat) (l : List Oc) : frz H b (d + 2) (ocsAV l) = ocsAV l := by
  show AV.sl l.length ((flatO l).map (frz H b (d + 1))) = _
  rw [frz_flatO]
theorem OutO.frz {H : Heap} {base d : Nat} {o : AV} {w : List Oc} (h : OutO base H o w) : Go.Am.frz H base (d + 2) o = outO w := by
  unfold outO
  rcases h with ⟨rfl, rfl⟩ | ⟨h0, b, rfl, h2, h3⟩
  · rfl
  · rw [frz_own3' (by omega) h3, List.drop_zero, frz_flatO, if_neg h0]
theorem same_H {H : Heap} {live : List Nat} {e0 e1 : Env} (hl : ∀ t ∈ live, ren (rnB H.length []) 8 (e1.get t) = e0.get t) : SameUp H.length live [] e0 H e1 H :=
  ⟨[], Nat.le_refl _, rfl, by simp, by simp, by simp, by simp, hl, by simp⟩
theorem outO_ne {w : List Oc} (h : w ≠ []) : outO w = ocsAV w := by rw [outO, if_neg h]
theorem flatO_cat (l m : List Oc) : flatO (l ++ m) = flatO l ++ flatO m := by
  unfold flatO; rw [List.map_append, List.flatten_append]
theorem flatO_take : ∀ (l : List Oc) (i : Nat), (flatO l).take (i * 3) = flatO (l.take i)
  | [], i => by simp [flatO]
  | s :: l, 0 => by simp [flatO]
  | s :: l, i + 1 => by
    have e : flatO (s :: l) = AV.i s.r :: AV.v (.bool s.k) :: AV.i s.w :: flatO l := rfl
    rw [e, show (i + 1) * 3 = i * 3 + 1 + 1 + 1 by omega, List.take_succ_cons, List.take_succ_cons, List.take_succ_cons, flatO_take l i]
    rfl
theorem nil29 (n : Nat) (l : List AV) (h : 0 < n) : binV Try.prog .eql 29 (.sl n l) (.v (.slice none 0 0)) = some (.v (.bool false)) := by
  simp only [binV, tk29, nilB]
  rw [if_pos h]
  rfl
theorem app29g {lim b n m : Nat} {H : Heap} {y : AV} {w u : List Oc} (hb : hget H b = some (flatO w)) (hy : srcCells H 3 y = some (m, flatO u)) (hl : lim ≤ b) (hn : n = w.length) (hm : n + m ≤ 100000) :
    ∃ H', appendV Try.prog lim H 29 (.own 3 b 0 n) y = some (.own 3 H.length 0 (n + m), H') ∧ MGrew H b H' (flatO (w ++ u)) := by
  subst hn
  refine ⟨_, ?_, MGrew.of _ _ _⟩
  simp only [appendV, tk29, ty68, hy, hb]
  rw [if_pos ⟨rfl, by decide, flatO_st u⟩, if_pos ⟨hl, trivial, by rw [flatO_len]; omega, by omega, by omega⟩]
  rw [List.drop_zero, List.take_of_length_le (by rw [flatO_len]; omega), flatO_cat]
theorem src_sl {H : Heap} {n : Nat} {l : List Oc} {k : Nat} (hn : n ≤ l.length) : srcCells H 3 (.sl n (flatO l)) = some (n, flatO (l.take n)) := by
  simp only [srcCells]
  rw [if_pos (by rw [flatO_len]; omega), flatO_take]
theorem src_all {H : Heap} (l : List Oc) : srcCells H 3 (ocsAV l) = some (l.length, flatO l) := by
  rw [src_sl (k := 0) (Nat.le_refl _), List.take_of_length_le (Nat.le_refl _)]
theorem bs29two (lim : Nat) (H : Heap) (x y : Operand) (ev : Operand → AV) (s t : Oc) (h : ev x = .agg (ocC s)) (h2 : ev y = .agg (ocC t)) :
    effV Try.prog lim (.buildSlice 29 2 #[(0, x), (1, y)]) ev H = some (.own 3 H.length 0 2, H ++ [some (flatO [s, t])]) := by
  simp only [effV, tk29, ty68]
  rw [if_pos ⟨rfl, by decide, by decide⟩]
  simp only [List.map_cons, List.map_nil, h, h2]
  rfl
theorem outO_appG {lim lo m : Nat} {H : Heap} {o y : AV} {w u : List Oc} (h : OutO lo H o w) (hy : srcCells H 3 y = some (m, flatO u)) (hm : 0 < m) (hl : lim ≤ lo) (hlo : lo ≤ H.length) (hw : w.length + m ≤ 100000) :
    ∃ b, lo ≤ b ∧ ∃ H', appendV Try.prog lim H 29 o y = some (.own 3 H.length 0 (w.length + m), H') ∧ MGrew H b H' (flatO (w ++ u)) ∧ (∀ c, c ≠ b → c < H.length → hget H' c = hget H c) ∧ (b = H.length ∨ o = .own 3 b 0 w.length) := by
  rcases h with ⟨rfl, rfl⟩ | ⟨h0, b, rfl, h2, h3⟩
  · refine ⟨H.length, hlo, _, ?_, MGrew.ofNew _ (MNew.of _ _), ?_, .inl rfl⟩
    · simp only [appendV, tk29, ty68, hy]
      rw [if_pos ⟨rfl, by decide, flatO_st u⟩, if_pos ⟨by omega, by simp at hw; omega⟩]
      simp
    · intro c hc hcl
      exact (MNew.of H _).old c hcl
  · obtain ⟨H', h5, h6⟩ := app29g (lim := lim) h3 hy (by omega) rfl hw
    exact ⟨b, h2, H', h5, h6, h6.old, .inr rfl⟩
theorem flatO_set2 : ∀ (l : List Oc) (u : Nat) (x : Int), u < l.length → setL (flatO l) (u * 3 + 2) [AV.i x] = flatO (l.set u ⟨(gt l u).r, (gt l u).k, x⟩)
  | [], u, x, h => by simp at h
  | s :: l, 0, x, _ => rfl
  | s :: l, u + 1, x, h => by
    have ih := flatO_set2 l u x (by simpa using h)
    have e : flatO (s :: l) = AV.i s.r :: AV.v (.bool s.k) :: AV.i s.w :: flatO l := rfl
    have e2 : flatO ((s :: l).set (u + 1) ⟨(gt (s :: l) (u + 1)).r, (gt (s :: l) (u + 1)).k, x⟩) = AV.i s.r :: AV.v (.bool s.k) :: AV.i s.w :: flatO (l.set u ⟨(gt l u).r, (gt l u).k, x⟩) := rfl
    rw [e, e2, ← ih, show (u + 1) * 3 + 2 = u * 3 + 2 + 1 + 1 + 1 by omega]
    rfl
theorem src_own {H : Heap} {b n : Nat} {l : List Oc} (hb : hget H b = some (flatO l)) (hn : n = l.length) : srcCells H 3 (.own 3 b 0 n) = some (n, flatO l) := by
  subst hn
  simp only [srcCells, hb]
  rw [if_pos (by simp only [flatO_len]; omega), List.drop_zero, List.take_of_length_le (by rw [flatO_len]; omega)]
theorem bld68 (x : Int) (k : Bool) (z : Int) : buildV Try.prog 68 [(0, AV.i x), (1, .v (.bool k)), (2, AV.i z)] = some (.agg [AV.i x, .v (.bool k), AV.i z]) := by kernel_rfl
theorem bld68a (x z : Int) : buildV Try.prog 68 [(0, AV.i x), (2, AV.i z)] = some (.agg [AV.i x, .v (.bool false), AV.i z]) := by kernel_rfl
theorem bld68b (x : Int) (k : Bool) : buildV Try.prog 68 [(0, AV.i x), (1, .v (.bool k))] = some (.agg [AV.i x, .v (.bool k), AV.i 0]) := by kernel_rfl
theorem bld68c (k : Bool) : buildV Try.prog 68 [(1, .v (.bool k))] = some (.agg [AV.i 0, .v (.bool k), AV.i 0]) := by kernel_rfl
theorem bld68d (x : Int) : buildV Try.prog 68 [(0, AV.i x)] = some (.agg [AV.i x, .v (.bool false), AV.i 0]) := by kernel_rfl
theorem nil29o (b o n : Nat) (h : 0 < n) : binV Try.prog .eql 29 (.own 3 b o n) (.v (.slice none 0 0)) = some (.v (.bool false)) := by
  simp only [binV, tk29, nilB]
  rw [if_pos h]
  rfl
theorem OutO.mono2 {lo lo' : Nat} {H : Heap} {o : AV} {w : List Oc} (h : OutO lo H o w) (hh : lo' ≤ lo) : OutO lo' H o w := by
  rcases h with h | ⟨h0, b, h1, h2, h3⟩
  · exact .inl h
  · exact .inr ⟨h0, b, h1, by omega, h3⟩
theorem bs88 (lim : Nat) (H : Heap) (x y : Operand) (ev : Operand → AV) (h : ev x = .v (.bool false)) (h2 : ev y = .v (.bool true)) : effV Try.prog lim (.buildSlice 88 2 #[(0, x), (1, y)]) ev H = some (.own 1 H.length 0 2, H ++ [some [.v (.bool false), .v (.bool true)]]) := by
  simp only [effV, tk88, ty4]
  rw [if_pos ⟨rfl, by decide, by decide⟩]
  simp only [List.map_cons, List.map_nil, h, h2]
  rfl
theorem OutO.ne {lo b : Nat} {H : Heap} {o : AV} {w : List Oc} {x y : Bool} (h : OutO lo H o w) (hb : hget H b = some [.v (.bool x), .v (.bool y)]) (c : Nat) (hc : o = .own 3 c 0 w.length) : c ≠ b := by
  rcases h with ⟨rfl, rfl⟩ | ⟨h0, b', rfl, h2, h3⟩
  · cases hc
  · cases hc
    intro e
    subst e
    rw [hb] at h3
    match w, h0 with
    | a :: w, _ => cases h3
theorem OutO.mono3 {lo b : Nat} {H H' : Heap} {o : AV} {w : List Oc} {x y z : AV} (h : OutO lo H o w) (hb : hget H b = some [x, y, z]) (hh : ∀ c, lo ≤ c → c ≠ b → hget H' c = hget H c) (hl : ∀ c, o = .own 3 c 0 w.length → c ≠ b) : OutO lo H' o w := by
  rcases h with h | ⟨h0, c, h1, h2, h3⟩
  · exact .inl h
  · exact .inr ⟨h0, c, h1, h2, (hh c h2 (hl c h1)).trans h3⟩
theorem b2_at (k : Nat) (h : k < 2) : ([.v (.bool false), .v (.bool true)] : List AV)[k]? = some (.v (.bool (decide (k = 1)))) := by
  obtain rfl | rfl : k = 0 ∨ k = 1 := by omega
  · rfl
  · rfl
theorem hset_same {H : Heap} {b : Nat} {k : Blk} (h : hget H b = some k) : hset H b (some k) = H := by
  unfold hset hget at *
  apply List.ext_getElem?
  intro i
  rw [List.getElem?_set]
  by_cases hi : b = i
  · subst hi
    cases hb : H[b]? with
    | none => rw [hb] at h; cases h
    | some x =>
      rw [hb] at h
      have hlt := (List.getElem?_eq_some_iff.1 hb).1
      rw [if_pos rfl, if_pos hlt]
      cases x with
      | none => cases h
      | some y => cases h; rfl
  · rw [if_neg hi]
end Go.Proofs.Ytplockpopmaejaa
end
