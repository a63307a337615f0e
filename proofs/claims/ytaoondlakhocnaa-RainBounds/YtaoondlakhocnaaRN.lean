/-
  Walks of chapters 37, 39 and 40. The steps are written by program (walk.py).
-/
import Derived.Test.YtaoondlakhocnaaTy
import Derived.KernelRfl
set_option linter.unusedSimpArgs false
set_option linter.unusedVariables false
set_option maxHeartbeats 40000000
set_option maxRecDepth 4000
namespace Go.Proofs.Ytaoondlakhocnaa
open Go Go.Am

theorem awake_d (lim : Nat) (a b c d : AV) : acall sig 300 lim 34 [] ([] ++ [some [a, b, c, d]]) = some (.v (.bool true), [] ++ [some [a, b, c, d]]) := by kernel_rfl
theorem awake_t (lim : Nat) (a b c d : AV) : acall sig 300 lim 34 [] ([] ++ [some [a]] ++ [some [b, c, d]]) = some (.v (.bool true), [] ++ [some [a]] ++ [some [b, c, d]]) := by kernel_rfl
theorem awake_ds (lim : Nat) (a b c d e f g : AV) : acall sig 300 lim 34 [] ([] ++ [some [a, b, c, d]] ++ [some [e, f, g]]) = some (.v (.bool true), [] ++ [some [a, b, c, d]] ++ [some [e, f, g]]) := by kernel_rfl

end Go.Proofs.Ytaoondlakhocnaa
