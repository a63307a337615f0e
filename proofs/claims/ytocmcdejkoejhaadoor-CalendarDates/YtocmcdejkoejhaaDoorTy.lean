/-
  What loads, indexing, fields and lengths yield, type by type. Written by program (typack.py).
-/
import Derived.Test.YtocmcdejkoejhaaDoorSig
import Derived.Test.YtocmcdejkoejhaaDoorAmT
namespace Go.Proofs.YtocmcdejkoejhaaDoor
open Go Go.Am

theorem sigP : sig.P = Tryd.prog := rfl
theorem ldp1 (H : Heap) (b o : Nat) : loadV Tryd.prog H 1 (.ptr b o) = (hget H b).bind fun k => k[o]? := by rw [load_ptr _ H 1 _ ty1 b o]; rfl
theorem lde1 (H : Heap) (l : List AV) (o : Nat) : loadV Tryd.prog H 1 (.ele l o) = l[o]? := by rw [load_ele _ H 1 _ ty1 l o]; rfl
theorem zr1 : (tyOf Tryd.prog 1).bind (fun ty => ty.zero) = some [.nilFunc] := by rw [ty1]; rfl
theorem ldp2 (H : Heap) (b o : Nat) : loadV Tryd.prog H 2 (.ptr b o) = (hget H b).bind fun k => k[o]? := by rw [load_ptr _ H 2 _ ty2 b o]; rfl
theorem lde2 (H : Heap) (l : List AV) (o : Nat) : loadV Tryd.prog H 2 (.ele l o) = l[o]? := by rw [load_ele _ H 2 _ ty2 l o]; rfl
theorem zr2 : (tyOf Tryd.prog 2).bind (fun ty => ty.zero) = some [.int .i64 0] := by rw [ty2]; rfl
theorem ldp3 (H : Heap) (b o : Nat) : loadV Tryd.prog H 3 (.ptr b o) = (hget H b).bind fun k => k[o]? := by rw [load_ptr _ H 3 _ ty3 b o]; rfl
theorem lde3 (H : Heap) (l : List AV) (o : Nat) : loadV Tryd.prog H 3 (.ele l o) = l[o]? := by rw [load_ele _ H 3 _ ty3 l o]; rfl
theorem zr3 : (tyOf Tryd.prog 3).bind (fun ty => ty.zero) = some [.int .i64 0] := by rw [ty3]; rfl
theorem ldp4 (H : Heap) (b o : Nat) : loadV Tryd.prog H 4 (.ptr b o) = (hget H b).bind fun k => k[o]? := by rw [load_ptr _ H 4 _ ty4 b o]; rfl
theorem lde4 (H : Heap) (l : List AV) (o : Nat) : loadV Tryd.prog H 4 (.ele l o) = l[o]? := by rw [load_ele _ H 4 _ ty4 l o]; rfl
theorem zr4 : (tyOf Tryd.prog 4).bind (fun ty => ty.zero) = some [.bool false] := by rw [ty4]; rfl
theorem beq4 (a b : Bool) : binV Tryd.prog .eql 4 (.v (.bool a)) (.v (.bool b)) = some (.v (.bool (a == b))) := by simp only [binV, tk4]
theorem bne4 (a b : Bool) : binV Tryd.prog .neq 4 (.v (.bool a)) (.v (.bool b)) = some (.v (.bool (!(a == b)))) := by simp only [binV, tk4]
theorem ldp5 (H : Heap) (b o : Nat) : loadV Tryd.prog H 5 (.ptr b o) = (hget H b).bind fun k => k[o]? := by rw [load_ptr _ H 5 _ ty5 b o]; rfl
theorem lde5 (H : Heap) (l : List AV) (o : Nat) : loadV Tryd.prog H 5 (.ele l o) = l[o]? := by rw [load_ele _ H 5 _ ty5 l o]; rfl
theorem zr5 : (tyOf Tryd.prog 5).bind (fun ty => ty.zero) = some [.int .u8 0] := by rw [ty5]; rfl
theorem ldp9 (H : Heap) (b o : Nat) : loadV Tryd.prog H 9 (.ptr b o) = (hget H b).bind fun k => k[o]? := by rw [load_ptr _ H 9 _ ty9 b o]; rfl
theorem lde9 (H : Heap) (l : List AV) (o : Nat) : loadV Tryd.prog H 9 (.ele l o) = l[o]? := by rw [load_ele _ H 9 _ ty9 l o]; rfl
theorem zr9 : (tyOf Tryd.prog 9).bind (fun ty => ty.zero) = some [.string ⟨#[]⟩] := by rw [ty9]; rfl
theorem lnt9 (s : ByteArray) : lenV (tyOf Tryd.prog 9) (.v (.string s)) = some (.v (.int .i64 s.size)) := by rw [ty9]; exact len_str _ _ rfl
theorem ldp23 (H : Heap) (b o : Nat) : loadV Tryd.prog H 23 (.ptr b o) = (hget H b).bind fun k => k[o]? := by rw [load_ptr _ H 23 _ ty23 b o]; rfl
theorem lde23 (H : Heap) (l : List AV) (o : Nat) : loadV Tryd.prog H 23 (.ele l o) = l[o]? := by rw [load_ele _ H 23 _ ty23 l o]; rfl
theorem zr23 : (tyOf Tryd.prog 23).bind (fun ty => ty.zero) = some [.int .i64 0] := by rw [ty23]; rfl
theorem ldp37 (H : Heap) (b o : Nat) : loadV Tryd.prog H 37 (.ptr b o) = (hget H b).bind fun k => k[o]? := by rw [load_ptr _ H 37 _ ty37 b o]; rfl
theorem lde37 (H : Heap) (l : List AV) (o : Nat) : loadV Tryd.prog H 37 (.ele l o) = l[o]? := by rw [load_ele _ H 37 _ ty37 l o]; rfl
theorem zr37 : (tyOf Tryd.prog 37).bind (fun ty => ty.zero) = some [.slice none 0 0] := by rw [ty37]; rfl
theorem ias37 (n : Nat) (l : List AV) (k : IntKind) (i : Int) (h0 : 0 ≤ i) (h1 : i < n) : indexAddrV Tryd.prog 37 (.sl n l) (.v (.int k i)) = some (.ele l (i.toNat)) := by rw [ia_sl _ 37 2 _ tk37 ty2, if_pos ⟨h0, h1⟩]; rw [Nat.mul_one]
theorem iao37 (z b o n : Nat) (k : IntKind) (i : Int) (h0 : 0 ≤ i) (h1 : i < n) : indexAddrV Tryd.prog 37 (.own z b o n) (.v (.int k i)) = some (.ptr b (o + i.toNat)) := by rw [ia_own _ 37 2 _ tk37 ty2, if_pos ⟨h0, h1⟩]; rw [Nat.mul_one]
theorem lns37 (n : Nat) (l : List AV) : lenV (tyOf Tryd.prog 37) (.sl n l) = some (.v (.int .i64 n)) := by rw [ty37]; exact len_sl _ 2 _ _ rfl
theorem lno37 (z b o n : Nat) : lenV (tyOf Tryd.prog 37) (.own z b o n) = some (.v (.int .i64 n)) := by rw [ty37]; exact len_own _ 2 _ _ _ _ rfl
theorem lnn37 (n : Nat) : lenV (tyOf Tryd.prog 37) (.v (.slice none n 0)) = some (.v (.int .i64 n)) := by rw [ty37]; exact len_nil _ 2 _ rfl
theorem ldp40 (H : Heap) (b o : Nat) : loadV Tryd.prog H 40 (.ptr b o) = (hget H b).bind fun k => k[o]? := by rw [load_ptr _ H 40 _ ty40 b o]; rfl
theorem lde40 (H : Heap) (l : List AV) (o : Nat) : loadV Tryd.prog H 40 (.ele l o) = l[o]? := by rw [load_ele _ H 40 _ ty40 l o]; rfl
theorem zr40 : (tyOf Tryd.prog 40).bind (fun ty => ty.zero) = some [.slice none 0 0] := by rw [ty40]; rfl
theorem ias40 (n : Nat) (l : List AV) (k : IntKind) (i : Int) (h0 : 0 ≤ i) (h1 : i < n) : indexAddrV Tryd.prog 40 (.sl n l) (.v (.int k i)) = some (.ele l (i.toNat)) := by rw [ia_sl _ 40 37 _ tk40 ty37, if_pos ⟨h0, h1⟩]; rw [Nat.mul_one]
theorem iao40 (z b o n : Nat) (k : IntKind) (i : Int) (h0 : 0 ≤ i) (h1 : i < n) : indexAddrV Tryd.prog 40 (.own z b o n) (.v (.int k i)) = some (.ptr b (o + i.toNat)) := by rw [ia_own _ 40 37 _ tk40 ty37, if_pos ⟨h0, h1⟩]; rw [Nat.mul_one]
theorem lns40 (n : Nat) (l : List AV) : lenV (tyOf Tryd.prog 40) (.sl n l) = some (.v (.int .i64 n)) := by rw [ty40]; exact len_sl _ 37 _ _ rfl
theorem lno40 (z b o n : Nat) : lenV (tyOf Tryd.prog 40) (.own z b o n) = some (.v (.int .i64 n)) := by rw [ty40]; exact len_own _ 37 _ _ _ _ rfl
theorem lnn40 (n : Nat) : lenV (tyOf Tryd.prog 40) (.v (.slice none n 0)) = some (.v (.int .i64 n)) := by rw [ty40]; exact len_nil _ 37 _ rfl
theorem ldp41 (H : Heap) (b o : Nat) : loadV Tryd.prog H 41 (.ptr b o) = (hget H b).bind fun k => k[o]? := by rw [load_ptr _ H 41 _ ty41 b o]; rfl
theorem lde41 (H : Heap) (l : List AV) (o : Nat) : loadV Tryd.prog H 41 (.ele l o) = l[o]? := by rw [load_ele _ H 41 _ ty41 l o]; rfl
theorem zr41 : (tyOf Tryd.prog 41).bind (fun ty => ty.zero) = some [.slice none 0 0] := by rw [ty41]; rfl
theorem ias41 (n : Nat) (l : List AV) (k : IntKind) (i : Int) (h0 : 0 ≤ i) (h1 : i < n) : indexAddrV Tryd.prog 41 (.sl n l) (.v (.int k i)) = some (.ele l (i.toNat * 2)) := by rw [ia_sl _ 41 57 _ tk41 ty57, if_pos ⟨h0, h1⟩]
theorem iao41 (z b o n : Nat) (k : IntKind) (i : Int) (h0 : 0 ≤ i) (h1 : i < n) : indexAddrV Tryd.prog 41 (.own z b o n) (.v (.int k i)) = some (.ptr b (o + i.toNat * 2)) := by rw [ia_own _ 41 57 _ tk41 ty57, if_pos ⟨h0, h1⟩]
theorem lns41 (n : Nat) (l : List AV) : lenV (tyOf Tryd.prog 41) (.sl n l) = some (.v (.int .i64 n)) := by rw [ty41]; exact len_sl _ 57 _ _ rfl
theorem lno41 (z b o n : Nat) : lenV (tyOf Tryd.prog 41) (.own z b o n) = some (.v (.int .i64 n)) := by rw [ty41]; exact len_own _ 57 _ _ _ _ rfl
theorem lnn41 (n : Nat) : lenV (tyOf Tryd.prog 41) (.v (.slice none n 0)) = some (.v (.int .i64 n)) := by rw [ty41]; exact len_nil _ 57 _ rfl
theorem ldp52 (H : Heap) (b o : Nat) : loadV Tryd.prog H 52 (.ptr b o) = (hget H b).bind fun k => partL { size := 3, bytes := 24, agg := true, k := .array 3 3, zero := some [.int .i64 0, .int .i64 0, .int .i64 0] } k o := load_ptr _ H 52 _ ty52 b o
theorem lde52 (H : Heap) (l : List AV) (o : Nat) : loadV Tryd.prog H 52 (.ele l o) = partL { size := 3, bytes := 24, agg := true, k := .array 3 3, zero := some [.int .i64 0, .int .i64 0, .int .i64 0] } l o := load_ele _ H 52 _ ty52 l o
theorem pl52 (l : List AV) (o : Nat) (h : o + 3 ≤ l.length) : partL { size := 3, bytes := 24, agg := true, k := .array 3 3, zero := some [.int .i64 0, .int .i64 0, .int .i64 0] } l o = some (.agg ((l.drop o).take 3)) := by rw [partL_agg _ _ _ rfl, if_pos h]
theorem zr52 : (tyOf Tryd.prog 52).bind (fun ty => ty.zero) = some [.int .i64 0, .int .i64 0, .int .i64 0] := by rw [ty52]; rfl
theorem ldp53 (H : Heap) (b o : Nat) : loadV Tryd.prog H 53 (.ptr b o) = (hget H b).bind fun k => k[o]? := by rw [load_ptr _ H 53 _ ty53 b o]; rfl
theorem lde53 (H : Heap) (l : List AV) (o : Nat) : loadV Tryd.prog H 53 (.ele l o) = l[o]? := by rw [load_ele _ H 53 _ ty53 l o]; rfl
theorem zr53 : (tyOf Tryd.prog 53).bind (fun ty => ty.zero) = some [.slice none 0 0] := by rw [ty53]; rfl
theorem ias53 (n : Nat) (l : List AV) (k : IntKind) (i : Int) (h0 : 0 ≤ i) (h1 : i < n) : indexAddrV Tryd.prog 53 (.sl n l) (.v (.int k i)) = some (.ele l (i.toNat)) := by rw [ia_sl _ 53 5 _ tk53 ty5, if_pos ⟨h0, h1⟩]; rw [Nat.mul_one]
theorem iao53 (z b o n : Nat) (k : IntKind) (i : Int) (h0 : 0 ≤ i) (h1 : i < n) : indexAddrV Tryd.prog 53 (.own z b o n) (.v (.int k i)) = some (.ptr b (o + i.toNat)) := by rw [ia_own _ 53 5 _ tk53 ty5, if_pos ⟨h0, h1⟩]; rw [Nat.mul_one]
theorem lns53 (n : Nat) (l : List AV) : lenV (tyOf Tryd.prog 53) (.sl n l) = some (.v (.int .i64 n)) := by rw [ty53]; exact len_sl _ 5 _ _ rfl
theorem lno53 (z b o n : Nat) : lenV (tyOf Tryd.prog 53) (.own z b o n) = some (.v (.int .i64 n)) := by rw [ty53]; exact len_own _ 5 _ _ _ _ rfl
theorem lnn53 (n : Nat) : lenV (tyOf Tryd.prog 53) (.v (.slice none n 0)) = some (.v (.int .i64 n)) := by rw [ty53]; exact len_nil _ 5 _ rfl
theorem ldp54 (H : Heap) (b o : Nat) : loadV Tryd.prog H 54 (.ptr b o) = (hget H b).bind fun k => k[o]? := by rw [load_ptr _ H 54 _ ty54 b o]; rfl
theorem lde54 (H : Heap) (l : List AV) (o : Nat) : loadV Tryd.prog H 54 (.ele l o) = l[o]? := by rw [load_ele _ H 54 _ ty54 l o]; rfl
theorem zr54 : (tyOf Tryd.prog 54).bind (fun ty => ty.zero) = some [.slice none 0 0] := by rw [ty54]; rfl
theorem ias54 (n : Nat) (l : List AV) (k : IntKind) (i : Int) (h0 : 0 ≤ i) (h1 : i < n) : indexAddrV Tryd.prog 54 (.sl n l) (.v (.int k i)) = some (.ele l (i.toNat)) := by rw [ia_sl _ 54 3 _ tk54 ty3, if_pos ⟨h0, h1⟩]; rw [Nat.mul_one]
theorem iao54 (z b o n : Nat) (k : IntKind) (i : Int) (h0 : 0 ≤ i) (h1 : i < n) : indexAddrV Tryd.prog 54 (.own z b o n) (.v (.int k i)) = some (.ptr b (o + i.toNat)) := by rw [ia_own _ 54 3 _ tk54 ty3, if_pos ⟨h0, h1⟩]; rw [Nat.mul_one]
theorem lns54 (n : Nat) (l : List AV) : lenV (tyOf Tryd.prog 54) (.sl n l) = some (.v (.int .i64 n)) := by rw [ty54]; exact len_sl _ 3 _ _ rfl
theorem lno54 (z b o n : Nat) : lenV (tyOf Tryd.prog 54) (.own z b o n) = some (.v (.int .i64 n)) := by rw [ty54]; exact len_own _ 3 _ _ _ _ rfl
theorem lnn54 (n : Nat) : lenV (tyOf Tryd.prog 54) (.v (.slice none n 0)) = some (.v (.int .i64 n)) := by rw [ty54]; exact len_nil _ 3 _ rfl
theorem ldp57 (H : Heap) (b o : Nat) : loadV Tryd.prog H 57 (.ptr b o) = (hget H b).bind fun k => partL { size := 2, bytes := 16, agg := true, k := .struct [(0, 2), (1, 3)], zero := some [.int .i64 0, .int .i64 0] } k o := load_ptr _ H 57 _ ty57 b o
theorem lde57 (H : Heap) (l : List AV) (o : Nat) : loadV Tryd.prog H 57 (.ele l o) = partL { size := 2, bytes := 16, agg := true, k := .struct [(0, 2), (1, 3)], zero := some [.int .i64 0, .int .i64 0] } l o := load_ele _ H 57 _ ty57 l o
theorem pl57 (l : List AV) (o : Nat) (h : o + 2 ≤ l.length) : partL { size := 2, bytes := 16, agg := true, k := .struct [(0, 2), (1, 3)], zero := some [.int .i64 0, .int .i64 0] } l o = some (.agg ((l.drop o).take 2)) := by rw [partL_agg _ _ _ rfl, if_pos h]
theorem zr57 : (tyOf Tryd.prog 57).bind (fun ty => ty.zero) = some [.int .i64 0, .int .i64 0] := by rw [ty57]; rfl
theorem fap57_0 (b o : Nat) : fieldAddrV Tryd.prog 57 (.ptr b o) 0 = some (.ptr b (o)) := fa_ptr _ 57 _ tk57 b o 0 0 2 _ rfl ty2 (by decide)
theorem fae57_0 (l : List AV) (o : Nat) : fieldAddrV Tryd.prog 57 (.ele l o) 0 = some (.ele l (o)) := fa_ele _ 57 _ tk57 l o 0 0 2 _ rfl ty2 (by decide)
theorem fd57_0 (l : List AV) : fieldV Tryd.prog 57 (.agg l) 0 = l[0]? := by rw [fd_agg _ 57 _ tk57 l 0 0 2 _ rfl ty2]; rfl
theorem fap57_1 (b o : Nat) : fieldAddrV Tryd.prog 57 (.ptr b o) 1 = some (.ptr b (o + 1)) := fa_ptr _ 57 _ tk57 b o 1 1 3 _ rfl ty3 (by decide)
theorem fae57_1 (l : List AV) (o : Nat) : fieldAddrV Tryd.prog 57 (.ele l o) 1 = some (.ele l (o + 1)) := fa_ele _ 57 _ tk57 l o 1 1 3 _ rfl ty3 (by decide)
theorem fd57_1 (l : List AV) : fieldV Tryd.prog 57 (.agg l) 1 = l[1]? := by rw [fd_agg _ 57 _ tk57 l 1 1 3 _ rfl ty3]; rfl
theorem ldp62 (H : Heap) (b o : Nat) : loadV Tryd.prog H 62 (.ptr b o) = (hget H b).bind fun k => k[o]? := by rw [load_ptr _ H 62 _ ty62 b o]; rfl
theorem lde62 (H : Heap) (l : List AV) (o : Nat) : loadV Tryd.prog H 62 (.ele l o) = l[o]? := by rw [load_ele _ H 62 _ ty62 l o]; rfl
theorem zr62 : (tyOf Tryd.prog 62).bind (fun ty => ty.zero) = some [.int .u64 0] := by rw [ty62]; rfl

attribute [go_sem] sigP ldp1 lde1 zr1 ldp2 lde2 zr2 ldp3 lde3 zr3 ldp4 lde4 zr4 beq4 bne4 ldp5 lde5 zr5 ldp9 lde9
  zr9 lnt9 ldp23 lde23 zr23 ldp37 lde37 zr37 ias37 iao37 lns37 lno37 lnn37 ldp40 lde40 zr40 ias40 iao40 lns40 lno40
  lnn40 ldp41 lde41 zr41 ias41 iao41 lns41 lno41 lnn41 ldp52 lde52 pl52 zr52 ldp53 lde53 zr53 ias53 iao53 lns53 lno53
  lnn53 ldp54 lde54 zr54 ias54 iao54 lns54 lno54 lnn54 ldp57 lde57 pl57 zr57 fap57_0 fae57_0 fd57_0 fap57_1 fae57_1 fd57_1 ldp62
  lde62 zr62
end Go.Proofs.YtocmcdejkoejhaaDoor
