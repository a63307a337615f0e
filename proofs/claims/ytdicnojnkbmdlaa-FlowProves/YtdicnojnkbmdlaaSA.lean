/-
  The chapter's example, evaluated.
-/
import Derived.Test.YtdicnojnkbmdlaaAmL
import Derived.Test.YtdicnojnkbmdlaaSig
namespace Go.Proofs.Ytdicnojnkbmdlaa
open Go Go.Am
set_option maxRecDepth 100000
theorem awake_ok (lim : Nat) (H : Heap) : acall sig 200 lim 12 [] H = some (.v (.bool true), H) := by kernel_rfl
end Go.Proofs.Ytdicnojnkbmdlaa
