/-
  Texts of AttackCosts, part 16 of 17. Walks of chapters 46, 43 and 42. The steps are written by program (walk.py).
-/
import Derived.Test.YtplockpopmaejaaKAttackCosts5
import Derived.Test.YtplockpopmaejaaKAttackCosts6
import Derived.KernelRfl
section
set_option linter.unusedSimpArgs false
set_option linter.unusedVariables false
set_option maxHeartbeats 40000000
set_option maxRecDepth 4000
namespace Go.Proofs.Ytplockpopmaejaa
open Go Go.Am

set_option maxRecDepth 100000
theorem awake46 (lim : Nat) (H : Heap) : acall sig 200 lim 4 [] H = some (.v (.bool true), H) := by kernel_rfl

end Go.Proofs.Ytplockpopmaejaa
end
