/-
  What loads, indexing, fields and lengths yield, type by type. Written by program (typack.py).
-/
import Derived.Test.YtdkhgpdojjdadaaSig
import Derived.Test.YtdkhgpdojjdadaaAmT
namespace Go.Proofs.Ytdkhgpdojjdadaa
open Go Go.Am

theorem sigP : sig.P = Try.prog := rfl
theorem ldp1 (H : Heap) (b o : Nat) : loadV Try.prog H 1 (.ptr b o) = (hget H b).bind fun k => k[o]? := by rw [load_ptr _ H 1 _ ty1 b o]; rfl
theorem lde1 (H : Heap) (l : List AV) (o : Nat) : loadV Try.prog H 1 (.ele l o) = l[o]? := by rw [load_ele _ H 1 _ ty1 l o]; rfl
theorem zr1 : (tyOf Try.prog 1).bind (fun ty => ty.zero) = some [.nilFunc] := by rw [ty1]; rfl
theorem ldp2 (H : Heap) (b o : Nat) : loadV Try.prog H 2 (.ptr b o) = (hget H b).bind fun k => k[o]? := by rw [load_ptr _ H 2 _ ty2 b o]; rfl
theorem lde2 (H : Heap) (l : List AV) (o : Nat) : loadV Try.prog H 2 (.ele l o) = l[o]? := by rw [load_ele _ H 2 _ ty2 l o]; rfl
theorem zr2 : (tyOf Try.prog 2).bind (fun ty => ty.zero) = some [.int .i64 0] := by rw [ty2]; rfl
theorem ldp3 (H : Heap) (b o : Nat) : loadV Try.prog H 3 (.ptr b o) = (hget H b).bind fun k => k[o]? := by rw [load_ptr _ H 3 _ ty3 b o]; rfl
theorem lde3 (H : Heap) (l : List AV) (o : Nat) : loadV Try.prog H 3 (.ele l o) = l[o]? := by rw [load_ele _ H 3 _ ty3 l o]; rfl
theorem zr3 : (tyOf Try.prog 3).bind (fun ty => ty.zero) = some [.int .i64 0] := by rw [ty3]; rfl
theorem ldp4 (H : Heap) (b o : Nat) : loadV Try.prog H 4 (.ptr b o) = (hget H b).bind fun k => k[o]? := by rw [load_ptr _ H 4 _ ty4 b o]; rfl
theorem lde4 (H : Heap) (l : List AV) (o : Nat) : loadV Try.prog H 4 (.ele l o) = l[o]? := by rw [load_ele _ H 4 _ ty4 l o]; rfl
theorem zr4 : (tyOf Try.prog 4).bind (fun ty => ty.zero) = some [.bool false] := by rw [ty4]; rfl
theorem beq4 (a b : Bool) : binV Try.prog .eql 4 (.v (.bool a)) (.v (.bool b)) = some (.v (.bool (a == b))) := by simp only [binV, tk4]
theorem bne4 (a b : Bool) : binV Try.prog .neq 4 (.v (.bool a)) (.v (.bool b)) = some (.v (.bool (!(a == b)))) := by simp only [binV, tk4]
theorem ldp22 (H : Heap) (b o : Nat) : loadV Try.prog H 22 (.ptr b o) = (hget H b).bind fun k => k[o]? := by rw [load_ptr _ H 22 _ ty22 b o]; rfl
theorem lde22 (H : Heap) (l : List AV) (o : Nat) : loadV Try.prog H 22 (.ele l o) = l[o]? := by rw [load_ele _ H 22 _ ty22 l o]; rfl
theorem zr22 : (tyOf Try.prog 22).bind (fun ty => ty.zero) = some [.slice none 0 0] := by rw [ty22]; rfl
theorem ias22 (n : Nat) (l : List AV) (k : IntKind) (i : Int) (h0 : 0 ≤ i) (h1 : i < n) : indexAddrV Try.prog 22 (.sl n l) (.v (.int k i)) = some (.ele l (i.toNat)) := by rw [ia_sl _ 22 37 _ tk22 ty37, if_pos ⟨h0, h1⟩]; rw [Nat.mul_one]
theorem iao22 (z b o n : Nat) (k : IntKind) (i : Int) (h0 : 0 ≤ i) (h1 : i < n) : indexAddrV Try.prog 22 (.own z b o n) (.v (.int k i)) = some (.ptr b (o + i.toNat)) := by rw [ia_own _ 22 37 _ tk22 ty37, if_pos ⟨h0, h1⟩]; rw [Nat.mul_one]
theorem lns22 (n : Nat) (l : List AV) : lenV (tyOf Try.prog 22) (.sl n l) = some (.v (.int .i64 n)) := by rw [ty22]; exact len_sl _ 37 _ _ rfl
theorem lno22 (z b o n : Nat) : lenV (tyOf Try.prog 22) (.own z b o n) = some (.v (.int .i64 n)) := by rw [ty22]; exact len_own _ 37 _ _ _ _ rfl
theorem lnn22 (n : Nat) : lenV (tyOf Try.prog 22) (.v (.slice none n 0)) = some (.v (.int .i64 n)) := by rw [ty22]; exact len_nil _ 37 _ rfl
theorem ldp24 (H : Heap) (b o : Nat) : loadV Try.prog H 24 (.ptr b o) = (hget H b).bind fun k => partL { size := 1, bytes := 24, agg := true, k := .struct [(0, 22)], zero := some [.slice none 0 0] } k o := load_ptr _ H 24 _ ty24 b o
theorem lde24 (H : Heap) (l : List AV) (o : Nat) : loadV Try.prog H 24 (.ele l o) = partL { size := 1, bytes := 24, agg := true, k := .struct [(0, 22)], zero := some [.slice none 0 0] } l o := load_ele _ H 24 _ ty24 l o
theorem pl24 (l : List AV) (o : Nat) (h : o + 1 ≤ l.length) : partL { size := 1, bytes := 24, agg := true, k := .struct [(0, 22)], zero := some [.slice none 0 0] } l o = some (.agg ((l.drop o).take 1)) := by rw [partL_agg _ _ _ rfl, if_pos h]
theorem zr24 : (tyOf Try.prog 24).bind (fun ty => ty.zero) = some [.slice none 0 0] := by rw [ty24]; rfl
theorem fap24_0 (b o : Nat) : fieldAddrV Try.prog 24 (.ptr b o) 0 = some (.ptr b (o)) := fa_ptr _ 24 _ tk24 b o 0 0 22 _ rfl ty22 (by decide)
theorem fae24_0 (l : List AV) (o : Nat) : fieldAddrV Try.prog 24 (.ele l o) 0 = some (.ele l (o)) := fa_ele _ 24 _ tk24 l o 0 0 22 _ rfl ty22 (by decide)
theorem fd24_0 (l : List AV) : fieldV Try.prog 24 (.agg l) 0 = l[0]? := by rw [fd_agg _ 24 _ tk24 l 0 0 22 _ rfl ty22]; rfl
theorem ldp27 (H : Heap) (b o : Nat) : loadV Try.prog H 27 (.ptr b o) = (hget H b).bind fun k => k[o]? := by rw [load_ptr _ H 27 _ ty27 b o]; rfl
theorem lde27 (H : Heap) (l : List AV) (o : Nat) : loadV Try.prog H 27 (.ele l o) = l[o]? := by rw [load_ele _ H 27 _ ty27 l o]; rfl
theorem zr27 : (tyOf Try.prog 27).bind (fun ty => ty.zero) = some [.int .i64 0] := by rw [ty27]; rfl
theorem ldp37 (H : Heap) (b o : Nat) : loadV Try.prog H 37 (.ptr b o) = (hget H b).bind fun k => k[o]? := by rw [load_ptr _ H 37 _ ty37 b o]; rfl
theorem lde37 (H : Heap) (l : List AV) (o : Nat) : loadV Try.prog H 37 (.ele l o) = l[o]? := by rw [load_ele _ H 37 _ ty37 l o]; rfl
theorem zr37 : (tyOf Try.prog 37).bind (fun ty => ty.zero) = some [.slice none 0 0] := by rw [ty37]; rfl
theorem ias37 (n : Nat) (l : List AV) (k : IntKind) (i : Int) (h0 : 0 ≤ i) (h1 : i < n) : indexAddrV Try.prog 37 (.sl n l) (.v (.int k i)) = some (.ele l (i.toNat)) := by rw [ia_sl _ 37 2 _ tk37 ty2, if_pos ⟨h0, h1⟩]; rw [Nat.mul_one]
theorem iao37 (z b o n : Nat) (k : IntKind) (i : Int) (h0 : 0 ≤ i) (h1 : i < n) : indexAddrV Try.prog 37 (.own z b o n) (.v (.int k i)) = some (.ptr b (o + i.toNat)) := by rw [ia_own _ 37 2 _ tk37 ty2, if_pos ⟨h0, h1⟩]; rw [Nat.mul_one]
theorem lns37 (n : Nat) (l : List AV) : lenV (tyOf Try.prog 37) (.sl n l) = some (.v (.int .i64 n)) := by rw [ty37]; exact len_sl _ 2 _ _ rfl
theorem lno37 (z b o n : Nat) : lenV (tyOf Try.prog 37) (.own z b o n) = some (.v (.int .i64 n)) := by rw [ty37]; exact len_own _ 2 _ _ _ _ rfl
theorem lnn37 (n : Nat) : lenV (tyOf Try.prog 37) (.v (.slice none n 0)) = some (.v (.int .i64 n)) := by rw [ty37]; exact len_nil _ 2 _ rfl
theorem ldp38 (H : Heap) (b o : Nat) : loadV Try.prog H 38 (.ptr b o) = (hget H b).bind fun k => k[o]? := by rw [load_ptr _ H 38 _ ty38 b o]; rfl
theorem lde38 (H : Heap) (l : List AV) (o : Nat) : loadV Try.prog H 38 (.ele l o) = l[o]? := by rw [load_ele _ H 38 _ ty38 l o]; rfl
theorem zr38 : (tyOf Try.prog 38).bind (fun ty => ty.zero) = some [.slice none 0 0] := by rw [ty38]; rfl
theorem ias38 (n : Nat) (l : List AV) (k : IntKind) (i : Int) (h0 : 0 ≤ i) (h1 : i < n) : indexAddrV Try.prog 38 (.sl n l) (.v (.int k i)) = some (.ele l (i.toNat)) := by rw [ia_sl _ 38 24 _ tk38 ty24, if_pos ⟨h0, h1⟩]; rw [Nat.mul_one]
theorem iao38 (z b o n : Nat) (k : IntKind) (i : Int) (h0 : 0 ≤ i) (h1 : i < n) : indexAddrV Try.prog 38 (.own z b o n) (.v (.int k i)) = some (.ptr b (o + i.toNat)) := by rw [ia_own _ 38 24 _ tk38 ty24, if_pos ⟨h0, h1⟩]; rw [Nat.mul_one]
theorem lns38 (n : Nat) (l : List AV) : lenV (tyOf Try.prog 38) (.sl n l) = some (.v (.int .i64 n)) := by rw [ty38]; exact len_sl _ 24 _ _ rfl
theorem lno38 (z b o n : Nat) : lenV (tyOf Try.prog 38) (.own z b o n) = some (.v (.int .i64 n)) := by rw [ty38]; exact len_own _ 24 _ _ _ _ rfl
theorem lnn38 (n : Nat) : lenV (tyOf Try.prog 38) (.v (.slice none n 0)) = some (.v (.int .i64 n)) := by rw [ty38]; exact len_nil _ 24 _ rfl

attribute [go_sem] sigP ldp1 lde1 zr1 ldp2 lde2 zr2 ldp3 lde3 zr3 ldp4 lde4 zr4 beq4 bne4 ldp22 lde22 zr22 ias22 iao22
  lns22 lno22 lnn22 ldp24 lde24 pl24 zr24 fap24_0 fae24_0 fd24_0 ldp27 lde27 zr27 ldp37 lde37 zr37 ias37 iao37 lns37 lno37
  lnn37 ldp38 lde38 zr38 ias38 iao38 lns38 lno38 lnn38
end Go.Proofs.Ytdkhgpdojjdadaa
