/-
  The examples of chapter 53, evaluated.
-/
import Derived.Test.YtdicnojnkbmdlaaAmL
import Derived.Test.YtdicnojnkbmdlaaSig
namespace Go.Proofs.Ytdicnojnkbmdlaa
open Go Go.Am
set_option maxRecDepth 100000
theorem awake53_ok (lim : Nat) (H : Heap) : acall sig 400 lim 33 [] H = some (.v (.bool true), H) := by kernel_rfl
end Go.Proofs.Ytdicnojnkbmdlaa
