/-
  What loads, indexing, fields and lengths yield, type by type. Written by program (typack.py).
-/
import Derived.Test.YtmkalakojfpfgaaSig
import Derived.Test.YtmkalakojfpfgaaAmT
namespace Go.Proofs.Ytmkalakojfpfgaa
open Go Go.Am

theorem sigP : sig.P = Try.prog := rfl
theorem ldp1 (H : Heap) (b o : Nat) : loadV Try.prog H 1 (.ptr b o) = (hget H b).bind fun k => k[o]? := by rw [load_ptr _ H 1 _ ty1 b o]; rfl
theorem lde1 (H : Heap) (l : List AV) (o : Nat) : loadV Try.prog H 1 (.ele l o) = l[o]? := by rw [load_ele _ H 1 _ ty1 l o]; rfl
theorem zr1 : (tyOf Try.prog 1).bind (fun ty => ty.zero) = some [.nilFunc] := by rw [ty1]; rfl
theorem ldp2 (H : Heap) (b o : Nat) : loadV Try.prog H 2 (.ptr b o) = (hget H b).bind fun k => k[o]? := by rw [load_ptr _ H 2 _ ty2 b o]; rfl
theorem lde2 (H : Heap) (l : List AV) (o : Nat) : loadV Try.prog H 2 (.ele l o) = l[o]? := by rw [load_ele _ H 2 _ ty2 l o]; rfl
theorem zr2 : (tyOf Try.prog 2).bind (fun ty => ty.zero) = some [.int .i64 0] := by rw [ty2]; rfl
theorem ldp3 (H : Heap) (b o : Nat) : loadV Try.prog H 3 (.ptr b o) = (hget H b).bind fun k => k[o]? := by rw [load_ptr _ H 3 _ ty3 b o]; rfl
theorem lde3 (H : Heap) (l : List AV) (o : Nat) : loadV Try.prog H 3 (.ele l o) = l[o]? := by rw [load_ele _ H 3 _ ty3 l o]; rfl
theorem zr3 : (tyOf Try.prog 3).bind (fun ty => ty.zero) = some [.int .i64 0] := by rw [ty3]; rfl
theorem ldp4 (H : Heap) (b o : Nat) : loadV Try.prog H 4 (.ptr b o) = (hget H b).bind fun k => k[o]? := by rw [load_ptr _ H 4 _ ty4 b o]; rfl
theorem lde4 (H : Heap) (l : List AV) (o : Nat) : loadV Try.prog H 4 (.ele l o) = l[o]? := by rw [load_ele _ H 4 _ ty4 l o]; rfl
theorem zr4 : (tyOf Try.prog 4).bind (fun ty => ty.zero) = some [.bool false] := by rw [ty4]; rfl
theorem beq4 (a b : Bool) : binV Try.prog .eql 4 (.v (.bool a)) (.v (.bool b)) = some (.v (.bool (a == b))) := by simp only [binV, tk4]
theorem bne4 (a b : Bool) : binV Try.prog .neq 4 (.v (.bool a)) (.v (.bool b)) = some (.v (.bool (!(a == b)))) := by simp only [binV, tk4]
theorem ldp22 (H : Heap) (b o : Nat) : loadV Try.prog H 22 (.ptr b o) = (hget H b).bind fun k => k[o]? := by rw [load_ptr _ H 22 _ ty22 b o]; rfl
theorem lde22 (H : Heap) (l : List AV) (o : Nat) : loadV Try.prog H 22 (.ele l o) = l[o]? := by rw [load_ele _ H 22 _ ty22 l o]; rfl
theorem zr22 : (tyOf Try.prog 22).bind (fun ty => ty.zero) = some [.slice none 0 0] := by rw [ty22]; rfl
theorem ias22 (n : Nat) (l : List AV) (k : IntKind) (i : Int) (h0 : 0 ≤ i) (h1 : i < n) : indexAddrV Try.prog 22 (.sl n l) (.v (.int k i)) = some (.ele l (i.toNat)) := by rw [ia_sl _ 22 35 _ tk22 ty35, if_pos ⟨h0, h1⟩]; rw [Nat.mul_one]
theorem iao22 (z b o n : Nat) (k : IntKind) (i : Int) (h0 : 0 ≤ i) (h1 : i < n) : indexAddrV Try.prog 22 (.own z b o n) (.v (.int k i)) = some (.ptr b (o + i.toNat)) := by rw [ia_own _ 22 35 _ tk22 ty35, if_pos ⟨h0, h1⟩]; rw [Nat.mul_one]
theorem lns22 (n : Nat) (l : List AV) : lenV (tyOf Try.prog 22) (.sl n l) = some (.v (.int .i64 n)) := by rw [ty22]; exact len_sl _ 35 _ _ rfl
theorem lno22 (z b o n : Nat) : lenV (tyOf Try.prog 22) (.own z b o n) = some (.v (.int .i64 n)) := by rw [ty22]; exact len_own _ 35 _ _ _ _ rfl
theorem lnn22 (n : Nat) : lenV (tyOf Try.prog 22) (.v (.slice none n 0)) = some (.v (.int .i64 n)) := by rw [ty22]; exact len_nil _ 35 _ rfl
theorem ldp24 (H : Heap) (b o : Nat) : loadV Try.prog H 24 (.ptr b o) = (hget H b).bind fun k => partL { size := 3, bytes := 40, agg := true, k := .struct [(0, 22), (1, 3), (2, 3)], zero := some [.slice none 0 0, .int .i64 0, .int .i64 0] } k o := load_ptr _ H 24 _ ty24 b o
theorem lde24 (H : Heap) (l : List AV) (o : Nat) : loadV Try.prog H 24 (.ele l o) = partL { size := 3, bytes := 40, agg := true, k := .struct [(0, 22), (1, 3), (2, 3)], zero := some [.slice none 0 0, .int .i64 0, .int .i64 0] } l o := load_ele _ H 24 _ ty24 l o
theorem pl24 (l : List AV) (o : Nat) (h : o + 3 ≤ l.length) : partL { size := 3, bytes := 40, agg := true, k := .struct [(0, 22), (1, 3), (2, 3)], zero := some [.slice none 0 0, .int .i64 0, .int .i64 0] } l o = some (.agg ((l.drop o).take 3)) := by rw [partL_agg _ _ _ rfl, if_pos h]
theorem zr24 : (tyOf Try.prog 24).bind (fun ty => ty.zero) = some [.slice none 0 0, .int .i64 0, .int .i64 0] := by rw [ty24]; rfl
theorem fap24_0 (b o : Nat) : fieldAddrV Try.prog 24 (.ptr b o) 0 = some (.ptr b (o)) := fa_ptr _ 24 _ tk24 b o 0 0 22 _ rfl ty22 (by decide)
theorem fae24_0 (l : List AV) (o : Nat) : fieldAddrV Try.prog 24 (.ele l o) 0 = some (.ele l (o)) := fa_ele _ 24 _ tk24 l o 0 0 22 _ rfl ty22 (by decide)
theorem fd24_0 (l : List AV) : fieldV Try.prog 24 (.agg l) 0 = l[0]? := by rw [fd_agg _ 24 _ tk24 l 0 0 22 _ rfl ty22]; rfl
theorem fap24_1 (b o : Nat) : fieldAddrV Try.prog 24 (.ptr b o) 1 = some (.ptr b (o + 1)) := fa_ptr _ 24 _ tk24 b o 1 1 3 _ rfl ty3 (by decide)
theorem fae24_1 (l : List AV) (o : Nat) : fieldAddrV Try.prog 24 (.ele l o) 1 = some (.ele l (o + 1)) := fa_ele _ 24 _ tk24 l o 1 1 3 _ rfl ty3 (by decide)
theorem fd24_1 (l : List AV) : fieldV Try.prog 24 (.agg l) 1 = l[1]? := by rw [fd_agg _ 24 _ tk24 l 1 1 3 _ rfl ty3]; rfl
theorem fap24_2 (b o : Nat) : fieldAddrV Try.prog 24 (.ptr b o) 2 = some (.ptr b (o + 2)) := fa_ptr _ 24 _ tk24 b o 2 2 3 _ rfl ty3 (by decide)
theorem fae24_2 (l : List AV) (o : Nat) : fieldAddrV Try.prog 24 (.ele l o) 2 = some (.ele l (o + 2)) := fa_ele _ 24 _ tk24 l o 2 2 3 _ rfl ty3 (by decide)
theorem fd24_2 (l : List AV) : fieldV Try.prog 24 (.agg l) 2 = l[2]? := by rw [fd_agg _ 24 _ tk24 l 2 2 3 _ rfl ty3]; rfl
theorem ldp25 (H : Heap) (b o : Nat) : loadV Try.prog H 25 (.ptr b o) = (hget H b).bind fun k => k[o]? := by rw [load_ptr _ H 25 _ ty25 b o]; rfl
theorem lde25 (H : Heap) (l : List AV) (o : Nat) : loadV Try.prog H 25 (.ele l o) = l[o]? := by rw [load_ele _ H 25 _ ty25 l o]; rfl
theorem zr25 : (tyOf Try.prog 25).bind (fun ty => ty.zero) = some [.slice none 0 0] := by rw [ty25]; rfl
theorem ias25 (n : Nat) (l : List AV) (k : IntKind) (i : Int) (h0 : 0 ≤ i) (h1 : i < n) : indexAddrV Try.prog 25 (.sl n l) (.v (.int k i)) = some (.ele l (i.toNat)) := by rw [ia_sl _ 25 3 _ tk25 ty3, if_pos ⟨h0, h1⟩]; rw [Nat.mul_one]
theorem iao25 (z b o n : Nat) (k : IntKind) (i : Int) (h0 : 0 ≤ i) (h1 : i < n) : indexAddrV Try.prog 25 (.own z b o n) (.v (.int k i)) = some (.ptr b (o + i.toNat)) := by rw [ia_own _ 25 3 _ tk25 ty3, if_pos ⟨h0, h1⟩]; rw [Nat.mul_one]
theorem lns25 (n : Nat) (l : List AV) : lenV (tyOf Try.prog 25) (.sl n l) = some (.v (.int .i64 n)) := by rw [ty25]; exact len_sl _ 3 _ _ rfl
theorem lno25 (z b o n : Nat) : lenV (tyOf Try.prog 25) (.own z b o n) = some (.v (.int .i64 n)) := by rw [ty25]; exact len_own _ 3 _ _ _ _ rfl
theorem lnn25 (n : Nat) : lenV (tyOf Try.prog 25) (.v (.slice none n 0)) = some (.v (.int .i64 n)) := by rw [ty25]; exact len_nil _ 3 _ rfl
theorem ldp28 (H : Heap) (b o : Nat) : loadV Try.prog H 28 (.ptr b o) = (hget H b).bind fun k => k[o]? := by rw [load_ptr _ H 28 _ ty28 b o]; rfl
theorem lde28 (H : Heap) (l : List AV) (o : Nat) : loadV Try.prog H 28 (.ele l o) = l[o]? := by rw [load_ele _ H 28 _ ty28 l o]; rfl
theorem zr28 : (tyOf Try.prog 28).bind (fun ty => ty.zero) = some [.int .i64 0] := by rw [ty28]; rfl
theorem ldp35 (H : Heap) (b o : Nat) : loadV Try.prog H 35 (.ptr b o) = (hget H b).bind fun k => k[o]? := by rw [load_ptr _ H 35 _ ty35 b o]; rfl
theorem lde35 (H : Heap) (l : List AV) (o : Nat) : loadV Try.prog H 35 (.ele l o) = l[o]? := by rw [load_ele _ H 35 _ ty35 l o]; rfl
theorem zr35 : (tyOf Try.prog 35).bind (fun ty => ty.zero) = some [.slice none 0 0] := by rw [ty35]; rfl
theorem ias35 (n : Nat) (l : List AV) (k : IntKind) (i : Int) (h0 : 0 ≤ i) (h1 : i < n) : indexAddrV Try.prog 35 (.sl n l) (.v (.int k i)) = some (.ele l (i.toNat)) := by rw [ia_sl _ 35 2 _ tk35 ty2, if_pos ⟨h0, h1⟩]; rw [Nat.mul_one]
theorem iao35 (z b o n : Nat) (k : IntKind) (i : Int) (h0 : 0 ≤ i) (h1 : i < n) : indexAddrV Try.prog 35 (.own z b o n) (.v (.int k i)) = some (.ptr b (o + i.toNat)) := by rw [ia_own _ 35 2 _ tk35 ty2, if_pos ⟨h0, h1⟩]; rw [Nat.mul_one]
theorem lns35 (n : Nat) (l : List AV) : lenV (tyOf Try.prog 35) (.sl n l) = some (.v (.int .i64 n)) := by rw [ty35]; exact len_sl _ 2 _ _ rfl
theorem lno35 (z b o n : Nat) : lenV (tyOf Try.prog 35) (.own z b o n) = some (.v (.int .i64 n)) := by rw [ty35]; exact len_own _ 2 _ _ _ _ rfl
theorem lnn35 (n : Nat) : lenV (tyOf Try.prog 35) (.v (.slice none n 0)) = some (.v (.int .i64 n)) := by rw [ty35]; exact len_nil _ 2 _ rfl
theorem ldp37 (H : Heap) (b o : Nat) : loadV Try.prog H 37 (.ptr b o) = (hget H b).bind fun k => partL { size := 3, bytes := 56, agg := true, k := .struct [(0, 25), (1, 2), (2, 35)], zero := some [.slice none 0 0, .int .i64 0, .slice none 0 0] } k o := load_ptr _ H 37 _ ty37 b o
theorem lde37 (H : Heap) (l : List AV) (o : Nat) : loadV Try.prog H 37 (.ele l o) = partL { size := 3, bytes := 56, agg := true, k := .struct [(0, 25), (1, 2), (2, 35)], zero := some [.slice none 0 0, .int .i64 0, .slice none 0 0] } l o := load_ele _ H 37 _ ty37 l o
theorem pl37 (l : List AV) (o : Nat) (h : o + 3 ≤ l.length) : partL { size := 3, bytes := 56, agg := true, k := .struct [(0, 25), (1, 2), (2, 35)], zero := some [.slice none 0 0, .int .i64 0, .slice none 0 0] } l o = some (.agg ((l.drop o).take 3)) := by rw [partL_agg _ _ _ rfl, if_pos h]
theorem zr37 : (tyOf Try.prog 37).bind (fun ty => ty.zero) = some [.slice none 0 0, .int .i64 0, .slice none 0 0] := by rw [ty37]; rfl
theorem fap37_0 (b o : Nat) : fieldAddrV Try.prog 37 (.ptr b o) 0 = some (.ptr b (o)) := fa_ptr _ 37 _ tk37 b o 0 0 25 _ rfl ty25 (by decide)
theorem fae37_0 (l : List AV) (o : Nat) : fieldAddrV Try.prog 37 (.ele l o) 0 = some (.ele l (o)) := fa_ele _ 37 _ tk37 l o 0 0 25 _ rfl ty25 (by decide)
theorem fd37_0 (l : List AV) : fieldV Try.prog 37 (.agg l) 0 = l[0]? := by rw [fd_agg _ 37 _ tk37 l 0 0 25 _ rfl ty25]; rfl
theorem fap37_1 (b o : Nat) : fieldAddrV Try.prog 37 (.ptr b o) 1 = some (.ptr b (o + 1)) := fa_ptr _ 37 _ tk37 b o 1 1 2 _ rfl ty2 (by decide)
theorem fae37_1 (l : List AV) (o : Nat) : fieldAddrV Try.prog 37 (.ele l o) 1 = some (.ele l (o + 1)) := fa_ele _ 37 _ tk37 l o 1 1 2 _ rfl ty2 (by decide)
theorem fd37_1 (l : List AV) : fieldV Try.prog 37 (.agg l) 1 = l[1]? := by rw [fd_agg _ 37 _ tk37 l 1 1 2 _ rfl ty2]; rfl
theorem fap37_2 (b o : Nat) : fieldAddrV Try.prog 37 (.ptr b o) 2 = some (.ptr b (o + 2)) := fa_ptr _ 37 _ tk37 b o 2 2 35 _ rfl ty35 (by decide)
theorem fae37_2 (l : List AV) (o : Nat) : fieldAddrV Try.prog 37 (.ele l o) 2 = some (.ele l (o + 2)) := fa_ele _ 37 _ tk37 l o 2 2 35 _ rfl ty35 (by decide)
theorem fd37_2 (l : List AV) : fieldV Try.prog 37 (.agg l) 2 = l[2]? := by rw [fd_agg _ 37 _ tk37 l 2 2 35 _ rfl ty35]; rfl
theorem ldp42 (H : Heap) (b o : Nat) : loadV Try.prog H 42 (.ptr b o) = (hget H b).bind fun k => partL { size := 3, bytes := 24, agg := true, k := .array 3 2, zero := some [.int .i64 0, .int .i64 0, .int .i64 0] } k o := load_ptr _ H 42 _ ty42 b o
theorem lde42 (H : Heap) (l : List AV) (o : Nat) : loadV Try.prog H 42 (.ele l o) = partL { size := 3, bytes := 24, agg := true, k := .array 3 2, zero := some [.int .i64 0, .int .i64 0, .int .i64 0] } l o := load_ele _ H 42 _ ty42 l o
theorem pl42 (l : List AV) (o : Nat) (h : o + 3 ≤ l.length) : partL { size := 3, bytes := 24, agg := true, k := .array 3 2, zero := some [.int .i64 0, .int .i64 0, .int .i64 0] } l o = some (.agg ((l.drop o).take 3)) := by rw [partL_agg _ _ _ rfl, if_pos h]
theorem zr42 : (tyOf Try.prog 42).bind (fun ty => ty.zero) = some [.int .i64 0, .int .i64 0, .int .i64 0] := by rw [ty42]; rfl
theorem ldp48 (H : Heap) (b o : Nat) : loadV Try.prog H 48 (.ptr b o) = (hget H b).bind fun k => partL { size := 2, bytes := 32, agg := true, k := .struct [(0, 25), (1, 3)], zero := some [.slice none 0 0, .int .i64 0] } k o := load_ptr _ H 48 _ ty48 b o
theorem lde48 (H : Heap) (l : List AV) (o : Nat) : loadV Try.prog H 48 (.ele l o) = partL { size := 2, bytes := 32, agg := true, k := .struct [(0, 25), (1, 3)], zero := some [.slice none 0 0, .int .i64 0] } l o := load_ele _ H 48 _ ty48 l o
theorem pl48 (l : List AV) (o : Nat) (h : o + 2 ≤ l.length) : partL { size := 2, bytes := 32, agg := true, k := .struct [(0, 25), (1, 3)], zero := some [.slice none 0 0, .int .i64 0] } l o = some (.agg ((l.drop o).take 2)) := by rw [partL_agg _ _ _ rfl, if_pos h]
theorem zr48 : (tyOf Try.prog 48).bind (fun ty => ty.zero) = some [.slice none 0 0, .int .i64 0] := by rw [ty48]; rfl
theorem fap48_0 (b o : Nat) : fieldAddrV Try.prog 48 (.ptr b o) 0 = some (.ptr b (o)) := fa_ptr _ 48 _ tk48 b o 0 0 25 _ rfl ty25 (by decide)
theorem fae48_0 (l : List AV) (o : Nat) : fieldAddrV Try.prog 48 (.ele l o) 0 = some (.ele l (o)) := fa_ele _ 48 _ tk48 l o 0 0 25 _ rfl ty25 (by decide)
theorem fd48_0 (l : List AV) : fieldV Try.prog 48 (.agg l) 0 = l[0]? := by rw [fd_agg _ 48 _ tk48 l 0 0 25 _ rfl ty25]; rfl
theorem fap48_1 (b o : Nat) : fieldAddrV Try.prog 48 (.ptr b o) 1 = some (.ptr b (o + 1)) := fa_ptr _ 48 _ tk48 b o 1 1 3 _ rfl ty3 (by decide)
theorem fae48_1 (l : List AV) (o : Nat) : fieldAddrV Try.prog 48 (.ele l o) 1 = some (.ele l (o + 1)) := fa_ele _ 48 _ tk48 l o 1 1 3 _ rfl ty3 (by decide)
theorem fd48_1 (l : List AV) : fieldV Try.prog 48 (.agg l) 1 = l[1]? := by rw [fd_agg _ 48 _ tk48 l 1 1 3 _ rfl ty3]; rfl
theorem ldp55 (H : Heap) (b o : Nat) : loadV Try.prog H 55 (.ptr b o) = (hget H b).bind fun k => partL { size := 3, bytes := 40, agg := true, k := .struct [(0, 25), (1, 3), (2, 3)], zero := some [.slice none 0 0, .int .i64 0, .int .i64 0] } k o := load_ptr _ H 55 _ ty55 b o
theorem lde55 (H : Heap) (l : List AV) (o : Nat) : loadV Try.prog H 55 (.ele l o) = partL { size := 3, bytes := 40, agg := true, k := .struct [(0, 25), (1, 3), (2, 3)], zero := some [.slice none 0 0, .int .i64 0, .int .i64 0] } l o := load_ele _ H 55 _ ty55 l o
theorem pl55 (l : List AV) (o : Nat) (h : o + 3 ≤ l.length) : partL { size := 3, bytes := 40, agg := true, k := .struct [(0, 25), (1, 3), (2, 3)], zero := some [.slice none 0 0, .int .i64 0, .int .i64 0] } l o = some (.agg ((l.drop o).take 3)) := by rw [partL_agg _ _ _ rfl, if_pos h]
theorem zr55 : (tyOf Try.prog 55).bind (fun ty => ty.zero) = some [.slice none 0 0, .int .i64 0, .int .i64 0] := by rw [ty55]; rfl
theorem fap55_0 (b o : Nat) : fieldAddrV Try.prog 55 (.ptr b o) 0 = some (.ptr b (o)) := fa_ptr _ 55 _ tk55 b o 0 0 25 _ rfl ty25 (by decide)
theorem fae55_0 (l : List AV) (o : Nat) : fieldAddrV Try.prog 55 (.ele l o) 0 = some (.ele l (o)) := fa_ele _ 55 _ tk55 l o 0 0 25 _ rfl ty25 (by decide)
theorem fd55_0 (l : List AV) : fieldV Try.prog 55 (.agg l) 0 = l[0]? := by rw [fd_agg _ 55 _ tk55 l 0 0 25 _ rfl ty25]; rfl
theorem fap55_1 (b o : Nat) : fieldAddrV Try.prog 55 (.ptr b o) 1 = some (.ptr b (o + 1)) := fa_ptr _ 55 _ tk55 b o 1 1 3 _ rfl ty3 (by decide)
theorem fae55_1 (l : List AV) (o : Nat) : fieldAddrV Try.prog 55 (.ele l o) 1 = some (.ele l (o + 1)) := fa_ele _ 55 _ tk55 l o 1 1 3 _ rfl ty3 (by decide)
theorem fd55_1 (l : List AV) : fieldV Try.prog 55 (.agg l) 1 = l[1]? := by rw [fd_agg _ 55 _ tk55 l 1 1 3 _ rfl ty3]; rfl
theorem fap55_2 (b o : Nat) : fieldAddrV Try.prog 55 (.ptr b o) 2 = some (.ptr b (o + 2)) := fa_ptr _ 55 _ tk55 b o 2 2 3 _ rfl ty3 (by decide)
theorem fae55_2 (l : List AV) (o : Nat) : fieldAddrV Try.prog 55 (.ele l o) 2 = some (.ele l (o + 2)) := fa_ele _ 55 _ tk55 l o 2 2 3 _ rfl ty3 (by decide)
theorem fd55_2 (l : List AV) : fieldV Try.prog 55 (.agg l) 2 = l[2]? := by rw [fd_agg _ 55 _ tk55 l 2 2 3 _ rfl ty3]; rfl

attribute [go_sem] sigP ldp1 lde1 zr1 ldp2 lde2 zr2 ldp3 lde3 zr3 ldp4 lde4 zr4 beq4 bne4 ldp22 lde22 zr22 ias22 iao22
  lns22 lno22 lnn22 ldp24 lde24 pl24 zr24 fap24_0 fae24_0 fd24_0 fap24_1 fae24_1 fd24_1 fap24_2 fae24_2 fd24_2 ldp25 lde25 zr25 ias25
  iao25 lns25 lno25 lnn25 ldp28 lde28 zr28 ldp35 lde35 zr35 ias35 iao35 lns35 lno35 lnn35 ldp37 lde37 pl37 zr37 fap37_0
  fae37_0 fd37_0 fap37_1 fae37_1 fd37_1 fap37_2 fae37_2 fd37_2 ldp42 lde42 pl42 zr42 ldp48 lde48 pl48 zr48 fap48_0 fae48_0 fd48_0 fap48_1
  fae48_1 fd48_1 ldp55 lde55 pl55 zr55 fap55_0 fae55_0 fd55_0 fap55_1 fae55_1 fd55_1 fap55_2 fae55_2 fd55_2
end Go.Proofs.Ytmkalakojfpfgaa
