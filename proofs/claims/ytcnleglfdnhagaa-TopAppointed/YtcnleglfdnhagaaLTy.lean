/-
  Types that the law alone reads. Written by program.
-/
import Derived.Test.YtcnleglfdnhagaaTy
namespace Go.Proofs.Ytcnleglfdnhagaa.L
open Go Go.Am
theorem ty24 : tyOf Try.prog 24 = some { size := 1, bytes := 24, agg := false, k := .slice 30, zero := some [.slice none 0 0] } := by kernel_rfl
theorem tk24 : tk Try.prog 24 = some (.slice 30) := by kernel_rfl
theorem ty30 : tyOf Try.prog 30 = some { size := 3, bytes := 40, agg := true, k := .struct [(0, 3), (1, 9), (2, 9)], zero := some [.int .i64 0, .string ⟨#[]⟩, .string ⟨#[]⟩] } := by kernel_rfl
theorem tk30 : tk Try.prog 30 = some (.struct [(0, 3), (1, 9), (2, 9)]) := by kernel_rfl
theorem eqOk30 : eqOk Try.prog 30 = true := by kernel_rfl
theorem ty39 : tyOf Try.prog 39 = some { size := 1, bytes := 8, agg := false, k := .other, zero := some [.nilFunc] } := by kernel_rfl
theorem tk39 : tk Try.prog 39 = some (.other) := by kernel_rfl
theorem ldp24 (H : Heap) (b o : Nat) : loadV Try.prog H 24 (.ptr b o) = (hget H b).bind fun k => k[o]? := by rw [load_ptr _ H 24 _ ty24 b o]; rfl
theorem lde24 (H : Heap) (l : List AV) (o : Nat) : loadV Try.prog H 24 (.ele l o) = l[o]? := by rw [load_ele _ H 24 _ ty24 l o]; rfl
theorem zr24 : (tyOf Try.prog 24).bind (fun ty => ty.zero) = some [.slice none 0 0] := by rw [ty24]; rfl
theorem ias24 (n : Nat) (l : List AV) (k : IntKind) (i : Int) (h0 : 0 ≤ i) (h1 : i < n) : indexAddrV Try.prog 24 (.sl n l) (.v (.int k i)) = some (.ele l (i.toNat * 3)) := by rw [ia_sl _ 24 30 _ tk24 ty30, if_pos ⟨h0, h1⟩]
theorem iao24 (z b o n : Nat) (k : IntKind) (i : Int) (h0 : 0 ≤ i) (h1 : i < n) : indexAddrV Try.prog 24 (.own z b o n) (.v (.int k i)) = some (.ptr b (o + i.toNat * 3)) := by rw [ia_own _ 24 30 _ tk24 ty30, if_pos ⟨h0, h1⟩]
theorem lns24 (n : Nat) (l : List AV) : lenV (tyOf Try.prog 24) (.sl n l) = some (.v (.int .i64 n)) := by rw [ty24]; exact len_sl _ 30 _ _ rfl
theorem lno24 (z b o n : Nat) : lenV (tyOf Try.prog 24) (.own z b o n) = some (.v (.int .i64 n)) := by rw [ty24]; exact len_own _ 30 _ _ _ _ rfl
theorem lnn24 (n : Nat) : lenV (tyOf Try.prog 24) (.v (.slice none n 0)) = some (.v (.int .i64 n)) := by rw [ty24]; exact len_nil _ 30 _ rfl
theorem ldp30 (H : Heap) (b o : Nat) : loadV Try.prog H 30 (.ptr b o) = (hget H b).bind fun k => partL { size := 3, bytes := 40, agg := true, k := .struct [(0, 3), (1, 9), (2, 9)], zero := some [.int .i64 0, .string ⟨#[]⟩, .string ⟨#[]⟩] } k o := load_ptr _ H 30 _ ty30 b o
theorem lde30 (H : Heap) (l : List AV) (o : Nat) : loadV Try.prog H 30 (.ele l o) = partL { size := 3, bytes := 40, agg := true, k := .struct [(0, 3), (1, 9), (2, 9)], zero := some [.int .i64 0, .string ⟨#[]⟩, .string ⟨#[]⟩] } l o := load_ele _ H 30 _ ty30 l o
theorem pl30 (l : List AV) (o : Nat) (h : o + 3 ≤ l.length) : partL { size := 3, bytes := 40, agg := true, k := .struct [(0, 3), (1, 9), (2, 9)], zero := some [.int .i64 0, .string ⟨#[]⟩, .string ⟨#[]⟩] } l o = some (.agg ((l.drop o).take 3)) := by rw [partL_agg _ _ _ rfl, if_pos h]
theorem zr30 : (tyOf Try.prog 30).bind (fun ty => ty.zero) = some [.int .i64 0, .string ⟨#[]⟩, .string ⟨#[]⟩] := by rw [ty30]; rfl
theorem fap30_0 (b o : Nat) : fieldAddrV Try.prog 30 (.ptr b o) 0 = some (.ptr b (o)) := fa_ptr _ 30 _ tk30 b o 0 0 3 _ rfl ty3 (by decide)
theorem fae30_0 (l : List AV) (o : Nat) : fieldAddrV Try.prog 30 (.ele l o) 0 = some (.ele l (o)) := fa_ele _ 30 _ tk30 l o 0 0 3 _ rfl ty3 (by decide)
theorem fd30_0 (l : List AV) : fieldV Try.prog 30 (.agg l) 0 = l[0]? := by rw [fd_agg _ 30 _ tk30 l 0 0 3 _ rfl ty3]; rfl
theorem fap30_1 (b o : Nat) : fieldAddrV Try.prog 30 (.ptr b o) 1 = some (.ptr b (o + 1)) := fa_ptr _ 30 _ tk30 b o 1 1 9 _ rfl ty9 (by decide)
theorem fae30_1 (l : List AV) (o : Nat) : fieldAddrV Try.prog 30 (.ele l o) 1 = some (.ele l (o + 1)) := fa_ele _ 30 _ tk30 l o 1 1 9 _ rfl ty9 (by decide)
theorem fd30_1 (l : List AV) : fieldV Try.prog 30 (.agg l) 1 = l[1]? := by rw [fd_agg _ 30 _ tk30 l 1 1 9 _ rfl ty9]; rfl
theorem fap30_2 (b o : Nat) : fieldAddrV Try.prog 30 (.ptr b o) 2 = some (.ptr b (o + 2)) := fa_ptr _ 30 _ tk30 b o 2 2 9 _ rfl ty9 (by decide)
theorem fae30_2 (l : List AV) (o : Nat) : fieldAddrV Try.prog 30 (.ele l o) 2 = some (.ele l (o + 2)) := fa_ele _ 30 _ tk30 l o 2 2 9 _ rfl ty9 (by decide)
theorem fd30_2 (l : List AV) : fieldV Try.prog 30 (.agg l) 2 = l[2]? := by rw [fd_agg _ 30 _ tk30 l 2 2 9 _ rfl ty9]; rfl
theorem ldp39 (H : Heap) (b o : Nat) : loadV Try.prog H 39 (.ptr b o) = (hget H b).bind fun k => k[o]? := by rw [load_ptr _ H 39 _ ty39 b o]; rfl
theorem lde39 (H : Heap) (l : List AV) (o : Nat) : loadV Try.prog H 39 (.ele l o) = l[o]? := by rw [load_ele _ H 39 _ ty39 l o]; rfl
theorem zr39 : (tyOf Try.prog 39).bind (fun ty => ty.zero) = some [.nilFunc] := by rw [ty39]; rfl


attribute [go_sem] ldp24 lde24 zr24 ias24 iao24 lns24 lno24 lnn24 ldp30 lde30 pl30 zr30 fap30_0 fae30_0 fd30_0 fap30_1 fae30_1 fd30_1 fap30_2 fae30_2 fd30_2 ldp39 lde39 zr39
end Go.Proofs.Ytcnleglfdnhagaa.L
