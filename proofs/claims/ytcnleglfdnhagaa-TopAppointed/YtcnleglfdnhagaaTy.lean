/-
  What loads, indexing, fields and lengths yield, type by type. Written by program (typack.py).
-/
import Derived.Test.YtcnleglfdnhagaaSig
import Derived.Test.YtcnleglfdnhagaaAmT
namespace Go.Proofs.Ytcnleglfdnhagaa
open Go Go.Am

theorem sigP : sig.P = Try.prog := rfl
theorem ldp1 (H : Heap) (b o : Nat) : loadV Try.prog H 1 (.ptr b o) = (hget H b).bind fun k => k[o]? := by rw [load_ptr _ H 1 _ ty1 b o]; rfl
theorem lde1 (H : Heap) (l : List AV) (o : Nat) : loadV Try.prog H 1 (.ele l o) = l[o]? := by rw [load_ele _ H 1 _ ty1 l o]; rfl
theorem zr1 : (tyOf Try.prog 1).bind (fun ty => ty.zero) = some [.nilFunc] := by rw [ty1]; rfl
theorem ldp2 (H : Heap) (b o : Nat) : loadV Try.prog H 2 (.ptr b o) = (hget H b).bind fun k => k[o]? := by rw [load_ptr _ H 2 _ ty2 b o]; rfl
theorem lde2 (H : Heap) (l : List AV) (o : Nat) : loadV Try.prog H 2 (.ele l o) = l[o]? := by rw [load_ele _ H 2 _ ty2 l o]; rfl
theorem zr2 : (tyOf Try.prog 2).bind (fun ty => ty.zero) = some [.int .i64 0] := by rw [ty2]; rfl
theorem ldp3 (H : Heap) (b o : Nat) : loadV Try.prog H 3 (.ptr b o) = (hget H b).bind fun k => k[o]? := by rw [load_ptr _ H 3 _ ty3 b o]; rfl
theorem lde3 (H : Heap) (l : List AV) (o : Nat) : loadV Try.prog H 3 (.ele l o) = l[o]? := by rw [load_ele _ H 3 _ ty3 l o]; rfl
theorem zr3 : (tyOf Try.prog 3).bind (fun ty => ty.zero) = some [.int .i64 0] := by rw [ty3]; rfl
theorem ldp4 (H : Heap) (b o : Nat) : loadV Try.prog H 4 (.ptr b o) = (hget H b).bind fun k => k[o]? := by rw [load_ptr _ H 4 _ ty4 b o]; rfl
theorem lde4 (H : Heap) (l : List AV) (o : Nat) : loadV Try.prog H 4 (.ele l o) = l[o]? := by rw [load_ele _ H 4 _ ty4 l o]; rfl
theorem zr4 : (tyOf Try.prog 4).bind (fun ty => ty.zero) = some [.bool false] := by rw [ty4]; rfl
theorem beq4 (a b : Bool) : binV Try.prog .eql 4 (.v (.bool a)) (.v (.bool b)) = some (.v (.bool (a == b))) := by simp only [binV, tk4]
theorem bne4 (a b : Bool) : binV Try.prog .neq 4 (.v (.bool a)) (.v (.bool b)) = some (.v (.bool (!(a == b)))) := by simp only [binV, tk4]
theorem ldp5 (H : Heap) (b o : Nat) : loadV Try.prog H 5 (.ptr b o) = (hget H b).bind fun k => k[o]? := by rw [load_ptr _ H 5 _ ty5 b o]; rfl
theorem lde5 (H : Heap) (l : List AV) (o : Nat) : loadV Try.prog H 5 (.ele l o) = l[o]? := by rw [load_ele _ H 5 _ ty5 l o]; rfl
theorem zr5 : (tyOf Try.prog 5).bind (fun ty => ty.zero) = some [.int .u8 0] := by rw [ty5]; rfl
theorem ldp9 (H : Heap) (b o : Nat) : loadV Try.prog H 9 (.ptr b o) = (hget H b).bind fun k => k[o]? := by rw [load_ptr _ H 9 _ ty9 b o]; rfl
theorem lde9 (H : Heap) (l : List AV) (o : Nat) : loadV Try.prog H 9 (.ele l o) = l[o]? := by rw [load_ele _ H 9 _ ty9 l o]; rfl
theorem zr9 : (tyOf Try.prog 9).bind (fun ty => ty.zero) = some [.string ⟨#[]⟩] := by rw [ty9]; rfl
theorem lnt9 (s : ByteArray) : lenV (tyOf Try.prog 9) (.v (.string s)) = some (.v (.int .i64 s.size)) := by rw [ty9]; exact len_str _ _ rfl
theorem ldp22 (H : Heap) (b o : Nat) : loadV Try.prog H 22 (.ptr b o) = (hget H b).bind fun k => k[o]? := by rw [load_ptr _ H 22 _ ty22 b o]; rfl
theorem lde22 (H : Heap) (l : List AV) (o : Nat) : loadV Try.prog H 22 (.ele l o) = l[o]? := by rw [load_ele _ H 22 _ ty22 l o]; rfl
theorem zr22 : (tyOf Try.prog 22).bind (fun ty => ty.zero) = some [.slice none 0 0] := by rw [ty22]; rfl
theorem ias22 (n : Nat) (l : List AV) (k : IntKind) (i : Int) (h0 : 0 ≤ i) (h1 : i < n) : indexAddrV Try.prog 22 (.sl n l) (.v (.int k i)) = some (.ele l (i.toNat * 4)) := by rw [ia_sl _ 22 32 _ tk22 ty32, if_pos ⟨h0, h1⟩]
theorem iao22 (z b o n : Nat) (k : IntKind) (i : Int) (h0 : 0 ≤ i) (h1 : i < n) : indexAddrV Try.prog 22 (.own z b o n) (.v (.int k i)) = some (.ptr b (o + i.toNat * 4)) := by rw [ia_own _ 22 32 _ tk22 ty32, if_pos ⟨h0, h1⟩]
theorem lns22 (n : Nat) (l : List AV) : lenV (tyOf Try.prog 22) (.sl n l) = some (.v (.int .i64 n)) := by rw [ty22]; exact len_sl _ 32 _ _ rfl
theorem lno22 (z b o n : Nat) : lenV (tyOf Try.prog 22) (.own z b o n) = some (.v (.int .i64 n)) := by rw [ty22]; exact len_own _ 32 _ _ _ _ rfl
theorem lnn22 (n : Nat) : lenV (tyOf Try.prog 22) (.v (.slice none n 0)) = some (.v (.int .i64 n)) := by rw [ty22]; exact len_nil _ 32 _ rfl
theorem ldp23 (H : Heap) (b o : Nat) : loadV Try.prog H 23 (.ptr b o) = (hget H b).bind fun k => k[o]? := by rw [load_ptr _ H 23 _ ty23 b o]; rfl
theorem lde23 (H : Heap) (l : List AV) (o : Nat) : loadV Try.prog H 23 (.ele l o) = l[o]? := by rw [load_ele _ H 23 _ ty23 l o]; rfl
theorem zr23 : (tyOf Try.prog 23).bind (fun ty => ty.zero) = some [.slice none 0 0] := by rw [ty23]; rfl
theorem ias23 (n : Nat) (l : List AV) (k : IntKind) (i : Int) (h0 : 0 ≤ i) (h1 : i < n) : indexAddrV Try.prog 23 (.sl n l) (.v (.int k i)) = some (.ele l (i.toNat * 3)) := by rw [ia_sl _ 23 35 _ tk23 ty35, if_pos ⟨h0, h1⟩]
theorem iao23 (z b o n : Nat) (k : IntKind) (i : Int) (h0 : 0 ≤ i) (h1 : i < n) : indexAddrV Try.prog 23 (.own z b o n) (.v (.int k i)) = some (.ptr b (o + i.toNat * 3)) := by rw [ia_own _ 23 35 _ tk23 ty35, if_pos ⟨h0, h1⟩]
theorem lns23 (n : Nat) (l : List AV) : lenV (tyOf Try.prog 23) (.sl n l) = some (.v (.int .i64 n)) := by rw [ty23]; exact len_sl _ 35 _ _ rfl
theorem lno23 (z b o n : Nat) : lenV (tyOf Try.prog 23) (.own z b o n) = some (.v (.int .i64 n)) := by rw [ty23]; exact len_own _ 35 _ _ _ _ rfl
theorem lnn23 (n : Nat) : lenV (tyOf Try.prog 23) (.v (.slice none n 0)) = some (.v (.int .i64 n)) := by rw [ty23]; exact len_nil _ 35 _ rfl
theorem ldp25 (H : Heap) (b o : Nat) : loadV Try.prog H 25 (.ptr b o) = (hget H b).bind fun k => k[o]? := by rw [load_ptr _ H 25 _ ty25 b o]; rfl
theorem lde25 (H : Heap) (l : List AV) (o : Nat) : loadV Try.prog H 25 (.ele l o) = l[o]? := by rw [load_ele _ H 25 _ ty25 l o]; rfl
theorem zr25 : (tyOf Try.prog 25).bind (fun ty => ty.zero) = some [.slice none 0 0] := by rw [ty25]; rfl
theorem ias25 (n : Nat) (l : List AV) (k : IntKind) (i : Int) (h0 : 0 ≤ i) (h1 : i < n) : indexAddrV Try.prog 25 (.sl n l) (.v (.int k i)) = some (.ele l (i.toNat)) := by rw [ia_sl _ 25 3 _ tk25 ty3, if_pos ⟨h0, h1⟩]; rw [Nat.mul_one]
theorem iao25 (z b o n : Nat) (k : IntKind) (i : Int) (h0 : 0 ≤ i) (h1 : i < n) : indexAddrV Try.prog 25 (.own z b o n) (.v (.int k i)) = some (.ptr b (o + i.toNat)) := by rw [ia_own _ 25 3 _ tk25 ty3, if_pos ⟨h0, h1⟩]; rw [Nat.mul_one]
theorem lns25 (n : Nat) (l : List AV) : lenV (tyOf Try.prog 25) (.sl n l) = some (.v (.int .i64 n)) := by rw [ty25]; exact len_sl _ 3 _ _ rfl
theorem lno25 (z b o n : Nat) : lenV (tyOf Try.prog 25) (.own z b o n) = some (.v (.int .i64 n)) := by rw [ty25]; exact len_own _ 3 _ _ _ _ rfl
theorem lnn25 (n : Nat) : lenV (tyOf Try.prog 25) (.v (.slice none n 0)) = some (.v (.int .i64 n)) := by rw [ty25]; exact len_nil _ 3 _ rfl
theorem ldp26 (H : Heap) (b o : Nat) : loadV Try.prog H 26 (.ptr b o) = (hget H b).bind fun k => k[o]? := by rw [load_ptr _ H 26 _ ty26 b o]; rfl
theorem lde26 (H : Heap) (l : List AV) (o : Nat) : loadV Try.prog H 26 (.ele l o) = l[o]? := by rw [load_ele _ H 26 _ ty26 l o]; rfl
theorem zr26 : (tyOf Try.prog 26).bind (fun ty => ty.zero) = some [.int .i64 0] := by rw [ty26]; rfl
theorem ldp32 (H : Heap) (b o : Nat) : loadV Try.prog H 32 (.ptr b o) = (hget H b).bind fun k => partL { size := 4, bytes := 48, agg := true, k := .struct [(0, 3), (1, 2), (2, 9), (3, 9)], zero := some [.int .i64 0, .int .i64 0, .string ⟨#[]⟩, .string ⟨#[]⟩] } k o := load_ptr _ H 32 _ ty32 b o
theorem lde32 (H : Heap) (l : List AV) (o : Nat) : loadV Try.prog H 32 (.ele l o) = partL { size := 4, bytes := 48, agg := true, k := .struct [(0, 3), (1, 2), (2, 9), (3, 9)], zero := some [.int .i64 0, .int .i64 0, .string ⟨#[]⟩, .string ⟨#[]⟩] } l o := load_ele _ H 32 _ ty32 l o
theorem pl32 (l : List AV) (o : Nat) (h : o + 4 ≤ l.length) : partL { size := 4, bytes := 48, agg := true, k := .struct [(0, 3), (1, 2), (2, 9), (3, 9)], zero := some [.int .i64 0, .int .i64 0, .string ⟨#[]⟩, .string ⟨#[]⟩] } l o = some (.agg ((l.drop o).take 4)) := by rw [partL_agg _ _ _ rfl, if_pos h]
theorem zr32 : (tyOf Try.prog 32).bind (fun ty => ty.zero) = some [.int .i64 0, .int .i64 0, .string ⟨#[]⟩, .string ⟨#[]⟩] := by rw [ty32]; rfl
theorem fap32_0 (b o : Nat) : fieldAddrV Try.prog 32 (.ptr b o) 0 = some (.ptr b (o)) := fa_ptr _ 32 _ tk32 b o 0 0 3 _ rfl ty3 (by decide)
theorem fae32_0 (l : List AV) (o : Nat) : fieldAddrV Try.prog 32 (.ele l o) 0 = some (.ele l (o)) := fa_ele _ 32 _ tk32 l o 0 0 3 _ rfl ty3 (by decide)
theorem fd32_0 (l : List AV) : fieldV Try.prog 32 (.agg l) 0 = l[0]? := by rw [fd_agg _ 32 _ tk32 l 0 0 3 _ rfl ty3]; rfl
theorem fap32_1 (b o : Nat) : fieldAddrV Try.prog 32 (.ptr b o) 1 = some (.ptr b (o + 1)) := fa_ptr _ 32 _ tk32 b o 1 1 2 _ rfl ty2 (by decide)
theorem fae32_1 (l : List AV) (o : Nat) : fieldAddrV Try.prog 32 (.ele l o) 1 = some (.ele l (o + 1)) := fa_ele _ 32 _ tk32 l o 1 1 2 _ rfl ty2 (by decide)
theorem fd32_1 (l : List AV) : fieldV Try.prog 32 (.agg l) 1 = l[1]? := by rw [fd_agg _ 32 _ tk32 l 1 1 2 _ rfl ty2]; rfl
theorem fap32_2 (b o : Nat) : fieldAddrV Try.prog 32 (.ptr b o) 2 = some (.ptr b (o + 2)) := fa_ptr _ 32 _ tk32 b o 2 2 9 _ rfl ty9 (by decide)
theorem fae32_2 (l : List AV) (o : Nat) : fieldAddrV Try.prog 32 (.ele l o) 2 = some (.ele l (o + 2)) := fa_ele _ 32 _ tk32 l o 2 2 9 _ rfl ty9 (by decide)
theorem fd32_2 (l : List AV) : fieldV Try.prog 32 (.agg l) 2 = l[2]? := by rw [fd_agg _ 32 _ tk32 l 2 2 9 _ rfl ty9]; rfl
theorem fap32_3 (b o : Nat) : fieldAddrV Try.prog 32 (.ptr b o) 3 = some (.ptr b (o + 3)) := fa_ptr _ 32 _ tk32 b o 3 3 9 _ rfl ty9 (by decide)
theorem fae32_3 (l : List AV) (o : Nat) : fieldAddrV Try.prog 32 (.ele l o) 3 = some (.ele l (o + 3)) := fa_ele _ 32 _ tk32 l o 3 3 9 _ rfl ty9 (by decide)
theorem fd32_3 (l : List AV) : fieldV Try.prog 32 (.agg l) 3 = l[3]? := by rw [fd_agg _ 32 _ tk32 l 3 3 9 _ rfl ty9]; rfl
theorem ldp33 (H : Heap) (b o : Nat) : loadV Try.prog H 33 (.ptr b o) = (hget H b).bind fun k => k[o]? := by rw [load_ptr _ H 33 _ ty33 b o]; rfl
theorem lde33 (H : Heap) (l : List AV) (o : Nat) : loadV Try.prog H 33 (.ele l o) = l[o]? := by rw [load_ele _ H 33 _ ty33 l o]; rfl
theorem zr33 : (tyOf Try.prog 33).bind (fun ty => ty.zero) = some [.slice none 0 0] := by rw [ty33]; rfl
theorem ias33 (n : Nat) (l : List AV) (k : IntKind) (i : Int) (h0 : 0 ≤ i) (h1 : i < n) : indexAddrV Try.prog 33 (.sl n l) (.v (.int k i)) = some (.ele l (i.toNat)) := by rw [ia_sl _ 33 2 _ tk33 ty2, if_pos ⟨h0, h1⟩]; rw [Nat.mul_one]
theorem iao33 (z b o n : Nat) (k : IntKind) (i : Int) (h0 : 0 ≤ i) (h1 : i < n) : indexAddrV Try.prog 33 (.own z b o n) (.v (.int k i)) = some (.ptr b (o + i.toNat)) := by rw [ia_own _ 33 2 _ tk33 ty2, if_pos ⟨h0, h1⟩]; rw [Nat.mul_one]
theorem lns33 (n : Nat) (l : List AV) : lenV (tyOf Try.prog 33) (.sl n l) = some (.v (.int .i64 n)) := by rw [ty33]; exact len_sl _ 2 _ _ rfl
theorem lno33 (z b o n : Nat) : lenV (tyOf Try.prog 33) (.own z b o n) = some (.v (.int .i64 n)) := by rw [ty33]; exact len_own _ 2 _ _ _ _ rfl
theorem lnn33 (n : Nat) : lenV (tyOf Try.prog 33) (.v (.slice none n 0)) = some (.v (.int .i64 n)) := by rw [ty33]; exact len_nil _ 2 _ rfl
theorem ldp35 (H : Heap) (b o : Nat) : loadV Try.prog H 35 (.ptr b o) = (hget H b).bind fun k => partL { size := 3, bytes := 56, agg := true, k := .struct [(0, 9), (1, 9), (2, 33)], zero := some [.string ⟨#[]⟩, .string ⟨#[]⟩, .slice none 0 0] } k o := load_ptr _ H 35 _ ty35 b o
theorem lde35 (H : Heap) (l : List AV) (o : Nat) : loadV Try.prog H 35 (.ele l o) = partL { size := 3, bytes := 56, agg := true, k := .struct [(0, 9), (1, 9), (2, 33)], zero := some [.string ⟨#[]⟩, .string ⟨#[]⟩, .slice none 0 0] } l o := load_ele _ H 35 _ ty35 l o
theorem pl35 (l : List AV) (o : Nat) (h : o + 3 ≤ l.length) : partL { size := 3, bytes := 56, agg := true, k := .struct [(0, 9), (1, 9), (2, 33)], zero := some [.string ⟨#[]⟩, .string ⟨#[]⟩, .slice none 0 0] } l o = some (.agg ((l.drop o).take 3)) := by rw [partL_agg _ _ _ rfl, if_pos h]
theorem zr35 : (tyOf Try.prog 35).bind (fun ty => ty.zero) = some [.string ⟨#[]⟩, .string ⟨#[]⟩, .slice none 0 0] := by rw [ty35]; rfl
theorem fap35_0 (b o : Nat) : fieldAddrV Try.prog 35 (.ptr b o) 0 = some (.ptr b (o)) := fa_ptr _ 35 _ tk35 b o 0 0 9 _ rfl ty9 (by decide)
theorem fae35_0 (l : List AV) (o : Nat) : fieldAddrV Try.prog 35 (.ele l o) 0 = some (.ele l (o)) := fa_ele _ 35 _ tk35 l o 0 0 9 _ rfl ty9 (by decide)
theorem fd35_0 (l : List AV) : fieldV Try.prog 35 (.agg l) 0 = l[0]? := by rw [fd_agg _ 35 _ tk35 l 0 0 9 _ rfl ty9]; rfl
theorem fap35_1 (b o : Nat) : fieldAddrV Try.prog 35 (.ptr b o) 1 = some (.ptr b (o + 1)) := fa_ptr _ 35 _ tk35 b o 1 1 9 _ rfl ty9 (by decide)
theorem fae35_1 (l : List AV) (o : Nat) : fieldAddrV Try.prog 35 (.ele l o) 1 = some (.ele l (o + 1)) := fa_ele _ 35 _ tk35 l o 1 1 9 _ rfl ty9 (by decide)
theorem fd35_1 (l : List AV) : fieldV Try.prog 35 (.agg l) 1 = l[1]? := by rw [fd_agg _ 35 _ tk35 l 1 1 9 _ rfl ty9]; rfl
theorem fap35_2 (b o : Nat) : fieldAddrV Try.prog 35 (.ptr b o) 2 = some (.ptr b (o + 2)) := fa_ptr _ 35 _ tk35 b o 2 2 33 _ rfl ty33 (by decide)
theorem fae35_2 (l : List AV) (o : Nat) : fieldAddrV Try.prog 35 (.ele l o) 2 = some (.ele l (o + 2)) := fa_ele _ 35 _ tk35 l o 2 2 33 _ rfl ty33 (by decide)
theorem fd35_2 (l : List AV) : fieldV Try.prog 35 (.agg l) 2 = l[2]? := by rw [fd_agg _ 35 _ tk35 l 2 2 33 _ rfl ty33]; rfl
theorem ldp44 (H : Heap) (b o : Nat) : loadV Try.prog H 44 (.ptr b o) = (hget H b).bind fun k => k[o]? := by rw [load_ptr _ H 44 _ ty44 b o]; rfl
theorem lde44 (H : Heap) (l : List AV) (o : Nat) : loadV Try.prog H 44 (.ele l o) = l[o]? := by rw [load_ele _ H 44 _ ty44 l o]; rfl
theorem zr44 : (tyOf Try.prog 44).bind (fun ty => ty.zero) = some [.pointer none] := by rw [ty44]; rfl
theorem ldp49 (H : Heap) (b o : Nat) : loadV Try.prog H 49 (.ptr b o) = (hget H b).bind fun k => partL { size := 2, bytes := 16, agg := true, k := .array 2 3, zero := some [.int .i64 0, .int .i64 0] } k o := load_ptr _ H 49 _ ty49 b o
theorem lde49 (H : Heap) (l : List AV) (o : Nat) : loadV Try.prog H 49 (.ele l o) = partL { size := 2, bytes := 16, agg := true, k := .array 2 3, zero := some [.int .i64 0, .int .i64 0] } l o := load_ele _ H 49 _ ty49 l o
theorem pl49 (l : List AV) (o : Nat) (h : o + 2 ≤ l.length) : partL { size := 2, bytes := 16, agg := true, k := .array 2 3, zero := some [.int .i64 0, .int .i64 0] } l o = some (.agg ((l.drop o).take 2)) := by rw [partL_agg _ _ _ rfl, if_pos h]
theorem zr49 : (tyOf Try.prog 49).bind (fun ty => ty.zero) = some [.int .i64 0, .int .i64 0] := by rw [ty49]; rfl
theorem ldp59 (H : Heap) (b o : Nat) : loadV Try.prog H 59 (.ptr b o) = (hget H b).bind fun k => k[o]? := by rw [load_ptr _ H 59 _ ty59 b o]; rfl
theorem lde59 (H : Heap) (l : List AV) (o : Nat) : loadV Try.prog H 59 (.ele l o) = l[o]? := by rw [load_ele _ H 59 _ ty59 l o]; rfl
theorem zr59 : (tyOf Try.prog 59).bind (fun ty => ty.zero) = some [.slice none 0 0] := by rw [ty59]; rfl
theorem ias59 (n : Nat) (l : List AV) (k : IntKind) (i : Int) (h0 : 0 ≤ i) (h1 : i < n) : indexAddrV Try.prog 59 (.sl n l) (.v (.int k i)) = some (.ele l (i.toNat)) := by rw [ia_sl _ 59 62 _ tk59 ty62, if_pos ⟨h0, h1⟩]; rw [Nat.mul_one]
theorem iao59 (z b o n : Nat) (k : IntKind) (i : Int) (h0 : 0 ≤ i) (h1 : i < n) : indexAddrV Try.prog 59 (.own z b o n) (.v (.int k i)) = some (.ptr b (o + i.toNat)) := by rw [ia_own _ 59 62 _ tk59 ty62, if_pos ⟨h0, h1⟩]; rw [Nat.mul_one]
theorem lns59 (n : Nat) (l : List AV) : lenV (tyOf Try.prog 59) (.sl n l) = some (.v (.int .i64 n)) := by rw [ty59]; exact len_sl _ 62 _ _ rfl
theorem lno59 (z b o n : Nat) : lenV (tyOf Try.prog 59) (.own z b o n) = some (.v (.int .i64 n)) := by rw [ty59]; exact len_own _ 62 _ _ _ _ rfl
theorem lnn59 (n : Nat) : lenV (tyOf Try.prog 59) (.v (.slice none n 0)) = some (.v (.int .i64 n)) := by rw [ty59]; exact len_nil _ 62 _ rfl
theorem ldp61 (H : Heap) (b o : Nat) : loadV Try.prog H 61 (.ptr b o) = (hget H b).bind fun k => partL { size := 3, bytes := 72, agg := true, k := .struct [(0, 59), (1, 25), (2, 25)], zero := some [.slice none 0 0, .slice none 0 0, .slice none 0 0] } k o := load_ptr _ H 61 _ ty61 b o
theorem lde61 (H : Heap) (l : List AV) (o : Nat) : loadV Try.prog H 61 (.ele l o) = partL { size := 3, bytes := 72, agg := true, k := .struct [(0, 59), (1, 25), (2, 25)], zero := some [.slice none 0 0, .slice none 0 0, .slice none 0 0] } l o := load_ele _ H 61 _ ty61 l o
theorem pl61 (l : List AV) (o : Nat) (h : o + 3 ≤ l.length) : partL { size := 3, bytes := 72, agg := true, k := .struct [(0, 59), (1, 25), (2, 25)], zero := some [.slice none 0 0, .slice none 0 0, .slice none 0 0] } l o = some (.agg ((l.drop o).take 3)) := by rw [partL_agg _ _ _ rfl, if_pos h]
theorem zr61 : (tyOf Try.prog 61).bind (fun ty => ty.zero) = some [.slice none 0 0, .slice none 0 0, .slice none 0 0] := by rw [ty61]; rfl
theorem fap61_0 (b o : Nat) : fieldAddrV Try.prog 61 (.ptr b o) 0 = some (.ptr b (o)) := fa_ptr _ 61 _ tk61 b o 0 0 59 _ rfl ty59 (by decide)
theorem fae61_0 (l : List AV) (o : Nat) : fieldAddrV Try.prog 61 (.ele l o) 0 = some (.ele l (o)) := fa_ele _ 61 _ tk61 l o 0 0 59 _ rfl ty59 (by decide)
theorem fd61_0 (l : List AV) : fieldV Try.prog 61 (.agg l) 0 = l[0]? := by rw [fd_agg _ 61 _ tk61 l 0 0 59 _ rfl ty59]; rfl
theorem fap61_1 (b o : Nat) : fieldAddrV Try.prog 61 (.ptr b o) 1 = some (.ptr b (o + 1)) := fa_ptr _ 61 _ tk61 b o 1 1 25 _ rfl ty25 (by decide)
theorem fae61_1 (l : List AV) (o : Nat) : fieldAddrV Try.prog 61 (.ele l o) 1 = some (.ele l (o + 1)) := fa_ele _ 61 _ tk61 l o 1 1 25 _ rfl ty25 (by decide)
theorem fd61_1 (l : List AV) : fieldV Try.prog 61 (.agg l) 1 = l[1]? := by rw [fd_agg _ 61 _ tk61 l 1 1 25 _ rfl ty25]; rfl
theorem fap61_2 (b o : Nat) : fieldAddrV Try.prog 61 (.ptr b o) 2 = some (.ptr b (o + 2)) := fa_ptr _ 61 _ tk61 b o 2 2 25 _ rfl ty25 (by decide)
theorem fae61_2 (l : List AV) (o : Nat) : fieldAddrV Try.prog 61 (.ele l o) 2 = some (.ele l (o + 2)) := fa_ele _ 61 _ tk61 l o 2 2 25 _ rfl ty25 (by decide)
theorem fd61_2 (l : List AV) : fieldV Try.prog 61 (.agg l) 2 = l[2]? := by rw [fd_agg _ 61 _ tk61 l 2 2 25 _ rfl ty25]; rfl
theorem ldp62 (H : Heap) (b o : Nat) : loadV Try.prog H 62 (.ptr b o) = (hget H b).bind fun k => k[o]? := by rw [load_ptr _ H 62 _ ty62 b o]; rfl
theorem lde62 (H : Heap) (l : List AV) (o : Nat) : loadV Try.prog H 62 (.ele l o) = l[o]? := by rw [load_ele _ H 62 _ ty62 l o]; rfl
theorem zr62 : (tyOf Try.prog 62).bind (fun ty => ty.zero) = some [.slice none 0 0] := by rw [ty62]; rfl
theorem ias62 (n : Nat) (l : List AV) (k : IntKind) (i : Int) (h0 : 0 ≤ i) (h1 : i < n) : indexAddrV Try.prog 62 (.sl n l) (.v (.int k i)) = some (.ele l (i.toNat)) := by rw [ia_sl _ 62 4 _ tk62 ty4, if_pos ⟨h0, h1⟩]; rw [Nat.mul_one]
theorem iao62 (z b o n : Nat) (k : IntKind) (i : Int) (h0 : 0 ≤ i) (h1 : i < n) : indexAddrV Try.prog 62 (.own z b o n) (.v (.int k i)) = some (.ptr b (o + i.toNat)) := by rw [ia_own _ 62 4 _ tk62 ty4, if_pos ⟨h0, h1⟩]; rw [Nat.mul_one]
theorem lns62 (n : Nat) (l : List AV) : lenV (tyOf Try.prog 62) (.sl n l) = some (.v (.int .i64 n)) := by rw [ty62]; exact len_sl _ 4 _ _ rfl
theorem lno62 (z b o n : Nat) : lenV (tyOf Try.prog 62) (.own z b o n) = some (.v (.int .i64 n)) := by rw [ty62]; exact len_own _ 4 _ _ _ _ rfl
theorem lnn62 (n : Nat) : lenV (tyOf Try.prog 62) (.v (.slice none n 0)) = some (.v (.int .i64 n)) := by rw [ty62]; exact len_nil _ 4 _ rfl
theorem ldp83 (H : Heap) (b o : Nat) : loadV Try.prog H 83 (.ptr b o) = (hget H b).bind fun k => k[o]? := by rw [load_ptr _ H 83 _ ty83 b o]; rfl
theorem lde83 (H : Heap) (l : List AV) (o : Nat) : loadV Try.prog H 83 (.ele l o) = l[o]? := by rw [load_ele _ H 83 _ ty83 l o]; rfl
theorem zr83 : (tyOf Try.prog 83).bind (fun ty => ty.zero) = some [.slice none 0 0] := by rw [ty83]; rfl
theorem ias83 (n : Nat) (l : List AV) (k : IntKind) (i : Int) (h0 : 0 ≤ i) (h1 : i < n) : indexAddrV Try.prog 83 (.sl n l) (.v (.int k i)) = some (.ele l (i.toNat)) := by rw [ia_sl _ 83 5 _ tk83 ty5, if_pos ⟨h0, h1⟩]; rw [Nat.mul_one]
theorem iao83 (z b o n : Nat) (k : IntKind) (i : Int) (h0 : 0 ≤ i) (h1 : i < n) : indexAddrV Try.prog 83 (.own z b o n) (.v (.int k i)) = some (.ptr b (o + i.toNat)) := by rw [ia_own _ 83 5 _ tk83 ty5, if_pos ⟨h0, h1⟩]; rw [Nat.mul_one]
theorem lns83 (n : Nat) (l : List AV) : lenV (tyOf Try.prog 83) (.sl n l) = some (.v (.int .i64 n)) := by rw [ty83]; exact len_sl _ 5 _ _ rfl
theorem lno83 (z b o n : Nat) : lenV (tyOf Try.prog 83) (.own z b o n) = some (.v (.int .i64 n)) := by rw [ty83]; exact len_own _ 5 _ _ _ _ rfl
theorem lnn83 (n : Nat) : lenV (tyOf Try.prog 83) (.v (.slice none n 0)) = some (.v (.int .i64 n)) := by rw [ty83]; exact len_nil _ 5 _ rfl

attribute [go_sem] sigP ldp1 lde1 zr1 ldp2 lde2 zr2 ldp3 lde3 zr3 ldp4 lde4 zr4 beq4 bne4 ldp5 lde5 zr5 ldp9 lde9
  zr9 lnt9 ldp22 lde22 zr22 ias22 iao22 lns22 lno22 lnn22 ldp23 lde23 zr23 ias23 iao23 lns23 lno23 lnn23 ldp25 lde25
  zr25 ias25 iao25 lns25 lno25 lnn25 ldp26 lde26 zr26 ldp32 lde32 pl32 zr32 fap32_0 fae32_0 fd32_0 fap32_1 fae32_1 fd32_1 fap32_2
  fae32_2 fd32_2 fap32_3 fae32_3 fd32_3 ldp33 lde33 zr33 ias33 iao33 lns33 lno33 lnn33 ldp35 lde35 pl35 zr35 fap35_0 fae35_0 fd35_0
  fap35_1 fae35_1 fd35_1 fap35_2 fae35_2 fd35_2 ldp44 lde44 zr44 ldp49 lde49 pl49 zr49 ldp59 lde59 zr59 ias59 iao59 lns59 lno59
  lnn59 ldp61 lde61 pl61 zr61 fap61_0 fae61_0 fd61_0 fap61_1 fae61_1 fd61_1 fap61_2 fae61_2 fd61_2 ldp62 lde62 zr62 ias62 iao62 lns62
  lno62 lnn62 ldp83 lde83 zr83 ias83 iao83 lns83 lno83 lnn83
end Go.Proofs.Ytcnleglfdnhagaa
