/-
  Walks of chapters 37, 39 and 40. The steps are written by program (walk.py).
-/
import Derived.Test.YtaoondlakhocnaaTy
import Derived.KernelRfl
set_option linter.unusedSimpArgs false
set_option linter.unusedVariables false
set_option maxHeartbeats 40000000
set_option maxRecDepth 4000
namespace Go.Proofs.Ytaoondlakhocnaa
open Go Go.Am

theorem awake_c2 (lim : Nat) (a b c d e f g x y : AV) : acall sig 300 lim 24 [] ([] ++ [some [a, b, c, d, e, f, g]] ++ [some [x, y]]) = some (.v (.bool true), [] ++ [some [a, b, c, d, e, f, g]] ++ [some [x, y]]) := by kernel_rfl

end Go.Proofs.Ytaoondlakhocnaa
