/-
  The chapter's example, reckoned.
-/
import Derived.Test.YtfnapmdedmbdbaaDoorSig
namespace Go.Proofs.YtfnapmdedmbdbaaDoor
open Go Go.Am
set_option maxRecDepth 100000
theorem awake51 (lim : Nat) (H : Heap) : acall sig 400 lim 10 [] H = some (.v (.bool true), H) := by kernel_rfl
end Go.Proofs.YtfnapmdedmbdbaaDoor
