/-
  Texts of TopSplit, part 14 of 15. Walks of chapters 37, 39 and 40. The steps are written by program (walk.py).
-/
import Derived.Test.YtaoondlakhocnaaKTopSplit5
import Derived.KernelRfl
section
set_option linter.unusedSimpArgs false
set_option linter.unusedVariables false
set_option maxHeartbeats 40000000
set_option maxRecDepth 4000
namespace Go.Proofs.Ytaoondlakhocnaa
open Go Go.Am

set_option maxRecDepth 100000
theorem awake20 (lim : Nat) (H : Heap) : acall sig 300 lim 16 [] H = some (.v (.bool true), H) := by kernel_rfl

end Go.Proofs.Ytaoondlakhocnaa
end
