/-
  The chapter's example, reckoned.
-/
import Derived.Test.YtokhmkkifmhfmaaDoorSig
namespace Go.Proofs.YtokhmkkifmhfmaaDoor
open Go Go.Am
set_option maxRecDepth 100000
theorem awake02 (lim : Nat) (H : Heap) : acall sig 400 lim 11 [] H = some (.v (.bool true), H) := by kernel_rfl
end Go.Proofs.YtokhmkkifmhfmaaDoor
