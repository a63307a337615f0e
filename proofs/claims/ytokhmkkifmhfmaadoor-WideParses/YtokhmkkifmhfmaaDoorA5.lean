/-
  One block that is made at any time; arrays of two numbers.
-/
import Derived.Test.YtokhmkkifmhfmaaDoorA
import Derived.Test.YtokhmkkifmhfmaaDoorAmU
set_option linter.unusedVariables false
namespace Go.Proofs.YtokhmkkifmhfmaaDoor
open Go Go.Am
theorem iap42 (b o : Nat) (k : IntKind) (i : Int) (h0 : 0 ≤ i) (h1 : i < 2) : indexAddrV Tryd.prog 42 (.ptr b o) (.v (.int k i)) = some (.ptr b (o + i.toNat)) := by
  rw [ia_ptr _ 42 2 _ 2 tk42 ty2, if_pos ⟨h0, h1⟩]; rw [Nat.mul_one]
theorem one_same {H : Heap} {live : List Nat} {e0 e1 : Env} {A : Blk} (hA : ∀ f, A.map (ren f 8) = A)
    (hl : ∀ t ∈ live, (ren (rnB H.length [0]) 8 (e1.get t)) = e0.get t) : SameUp H.length live [0] e0 (H ++ [some A]) e1 (H ++ [some A]) := by
  refine ⟨[0], by simp, by simp, by simp, by decide, by decide, by decide, hl, ?_⟩
  intro k hk
  simp only [List.mem_cons, List.not_mem_nil, or_false] at hk
  subst hk
  simp [hget, hA]
theorem keep_one (H : Heap) (A : Option Blk) : keepOnly [0] H.length (H ++ [A]) = H ++ [A] := by
  unfold keepOnly
  apply List.ext_getElem?
  intro i
  rw [List.getElem?_mapIdx]
  by_cases h : i < H.length
  · simp [h]
  · by_cases h2 : i < (H ++ [A]).length
    · have : i - H.length = 0 := by simp at h2; omega
      simp [this]
    · rw [List.getElem?_eq_none (by omega)]; rfl
attribute [go_sem] iap42
end Go.Proofs.YtokhmkkifmhfmaaDoor
