/-
  What the shelf says of the library's sort and of slices.Compact, at this program. Written by the shelf's own tools (lay-shelf, lay-plain).
-/
import Derived.Shelf.SortG.Plain
import Derived.Shelf.SlicesG.CompactI
import Derived.Test.YtkjgmpjnhfmecaaProg
import Derived.KernelRfl
namespace Go.Proofs
open Go.Shelf
def Try.sortI_ren : Go.Shelf.Ren := ⟨fun | 53 => 20 | 64 => 26 | 63 => 25 | 78 => 36 | 79 => 37 | 70 => 27 | 71 => 28 | 72 => 29 | 73 => 30 | 74 => 31 | 75 => 32 | 59 => 33 | 76 => 34 | 77 => 35 | 88 => 38 | 89 => 39 | 90 => 40 | 91 => 41 | 92 => 42 | 68 => 43 | 96 => 44 | n => n, fun | 22 => 44 | 23 => 2 | 3 => 3 | 51 => 41 | 0 => 0 | 67 => 78 | 69 => 80 | 4 => 4 | 61 => 70 | 60 => 69 | 44 => 75 | 5 => 5 | 9 => 9 | 75 => 81 | 79 => 85 | 83 => 88 | 84 => 89 | n => n, fun | n => n⟩
theorem Try.sortI : Go.Proofs.SlLaysN.n53 Try.prog Try.sortI_ren := {
  mixed := by kernel_rfl
  f53 := ⟨Try.f20.name, by decide, Try.func20.trans (congrArg some (by kernel_rfl))⟩
  f59 := ⟨Try.f33.name, by decide, Try.func33.trans (congrArg some (by kernel_rfl))⟩
  f63 := ⟨Try.f25.name, by decide, Try.func25.trans (congrArg some (by kernel_rfl))⟩
  f64 := Try.func26.trans (congrArg some (by kernel_rfl))
  f68 := ⟨Try.f43.name, by decide, Try.func43.trans (congrArg some (by kernel_rfl))⟩
  f70 := ⟨Try.f27.name, by decide, Try.func27.trans (congrArg some (by kernel_rfl))⟩
  f71 := ⟨Try.f28.name, by decide, Try.func28.trans (congrArg some (by kernel_rfl))⟩
  f72 := ⟨Try.f29.name, by decide, Try.func29.trans (congrArg some (by kernel_rfl))⟩
  f73 := ⟨Try.f30.name, by decide, Try.func30.trans (congrArg some (by kernel_rfl))⟩
  f74 := ⟨Try.f31.name, by decide, Try.func31.trans (congrArg some (by kernel_rfl))⟩
  f75 := ⟨Try.f32.name, by decide, Try.func32.trans (congrArg some (by kernel_rfl))⟩
  f76 := ⟨Try.f34.name, by decide, Try.func34.trans (congrArg some (by kernel_rfl))⟩
  f77 := ⟨Try.f35.name, by decide, Try.func35.trans (congrArg some (by kernel_rfl))⟩
  f78 := Try.func36.trans (congrArg some (by kernel_rfl))
  f79 := Try.func37.trans (congrArg some (by kernel_rfl))
  f88 := ⟨Try.f38.name, by decide, Try.func38.trans (congrArg some (by kernel_rfl))⟩
  f89 := Try.func39.trans (congrArg some (by kernel_rfl))
  f90 := Try.func40.trans (congrArg some (by kernel_rfl))
  f91 := ⟨Try.f41.name, by decide, Try.func41.trans (congrArg some (by kernel_rfl))⟩
  f92 := ⟨Try.f42.name, by decide, Try.func42.trans (congrArg some (by kernel_rfl))⟩
  f96 := ⟨Try.f44.name, by decide, Try.func44.trans (congrArg some (by kernel_rfl))⟩
  t0 := Try.underlying0
  a0 := Try.isAgg0
  z0 := Try.sizeOf0
  v0 := Try.zeroValue0
  t3 := Try.underlying3
  a3 := Try.isAgg3
  z3 := Try.sizeOf3
  v3 := Try.zeroValue3
  t4 := Try.underlying4
  a4 := Try.isAgg4
  z4 := Try.sizeOf4
  v4 := Try.zeroValue4
  t5 := Try.underlying5
  a5 := Try.isAgg5
  z5 := Try.sizeOf5
  v5 := Try.zeroValue5
  t9 := Try.underlying9
  a9 := Try.isAgg9
  z9 := Try.sizeOf9
  v9 := Try.zeroValue9
  t22 := Try.underlying44
  a22 := Try.isAgg44
  z22 := Try.sizeOf44
  v22 := Try.zeroValue44
  t23 := Try.underlying2
  a23 := Try.isAgg2
  z23 := Try.sizeOf2
  v23 := Try.zeroValue2
  t44 := Try.underlying75
  a44 := Try.isAgg75
  z44 := Try.sizeOf75
  v44 := Try.zeroValue75
  t51 := Try.underlying41
  a51 := Try.isAgg41
  z51 := Try.sizeOf41
  v51 := Try.zeroValue41
  t60 := Try.underlying69
  a60 := Try.isAgg69
  z60 := Try.sizeOf69
  v60 := Try.zeroValue69
  t61 := Try.underlying70
  a61 := Try.isAgg70
  z61 := Try.sizeOf70
  v61 := Try.zeroValue70
  t67 := Try.underlying78
  a67 := Try.isAgg78
  z67 := Try.sizeOf78
  v67 := Try.zeroValue78
  t69 := Try.underlying80
  a69 := Try.isAgg80
  z69 := Try.sizeOf80
  v69 := Try.zeroValue80
  t75 := Try.underlying81
  a75 := Try.isAgg81
  z75 := Try.sizeOf81
  v75 := Try.zeroValue81
  t79 := Try.underlying85
  a79 := Try.isAgg85
  z79 := Try.sizeOf85
  v79 := Try.zeroValue85
  t83 := Try.underlying88
  a83 := Try.isAgg88
  z83 := Try.sizeOf88
  v83 := Try.zeroValue88
  t84 := Try.underlying89
  a84 := Try.isAgg89
  z84 := Try.sizeOf89
  v84 := Try.zeroValue89 }
def Try.compactI_ren : Go.Shelf.Ren := ⟨fun | 43 => 21 | n => n, fun | 22 => 44 | 23 => 2 | 3 => 3 | 4 => 4 | 0 => 0 | n => n, fun | n => n⟩
theorem Try.compactI : Go.Proofs.SlLaysN.n43 Try.prog Try.compactI_ren := {
  mixed := by kernel_rfl
  f43 := ⟨Try.f21.name, by decide, Try.func21.trans (congrArg some (by kernel_rfl))⟩
  t0 := Try.underlying0
  a0 := Try.isAgg0
  z0 := Try.sizeOf0
  v0 := Try.zeroValue0
  t3 := Try.underlying3
  a3 := Try.isAgg3
  z3 := Try.sizeOf3
  v3 := Try.zeroValue3
  t4 := Try.underlying4
  a4 := Try.isAgg4
  z4 := Try.sizeOf4
  v4 := Try.zeroValue4
  t22 := Try.underlying44
  a22 := Try.isAgg44
  z22 := Try.sizeOf44
  v22 := Try.zeroValue44
  t23 := Try.underlying2
  a23 := Try.isAgg2
  z23 := Try.sizeOf2
  v23 := Try.zeroValue2
  i23 := by kernel_rfl }
end Go.Proofs
