/-
  One more interruption of either innings, and the target. Plain lemmas.
-/
import Derived.Test.YtaoondlakhocnaaV
import Derived.Test.YtaoondlakhocnaaRW
set_option linter.unusedVariables false
namespace Go.Proofs.Ytaoondlakhocnaa
open Go Go.Am
theorem tgt_second {rows : Tb} {per tot wth balls : Int} {l m : List Stp} {s : Stp} (h : (tgtS rows per tot wth balls l m).2 = 0) (h' : (tgtS rows per tot wth balls l (m ++ [s])).2 = 0) :
    (tgtS rows per tot wth balls l (m ++ [s])).1 ≤ (tgtS rows per tot wth balls l m).1 := by
  obtain ⟨L, M, e1, e2, e3, e4⟩ := tgt_zero h
  obtain ⟨L', M', f1, f2, f3, f4⟩ := tgt_zero h'
  rw [e1] at f1
  cases f1
  have := left_more (l := m) (s := s) (by rw [e2]) (by rw [f2] : (leftS rows per balls (m ++ [s])).2 = 0)
  rw [e2, f2] at this
  rw [e4, f4]
  exact rev_second f3 e3 this
theorem tgt_first {rows : Tb} {per tot wth balls : Int} {l m : List Stp} {s : Stp} (h : (tgtS rows per tot wth balls l m).2 = 0) (h' : (tgtS rows per tot wth balls (l ++ [s]) m).2 = 0) :
    (tgtS rows per tot wth balls l m).1 ≤ (tgtS rows per tot wth balls (l ++ [s]) m).1 := by
  obtain ⟨L, M, e1, e2, e3, e4⟩ := tgt_zero h
  obtain ⟨L', M', f1, f2, f3, f4⟩ := tgt_zero h'
  rw [e2] at f2
  cases f2
  have := left_more (l := l) (s := s) (by rw [e1]) (by rw [f1] : (leftS rows per balls (l ++ [s])).2 = 0)
  rw [e1, f1] at this
  rw [e4, f4]
  exact rev_first f3 e3 this
end Go.Proofs.Ytaoondlakhocnaa
