/-
  The chapter's example, reckoned.
-/
import Derived.Test.YtocmcdejkoejhaaDoorSig
namespace Go.Proofs.YtocmcdejkoejhaaDoor
open Go Go.Am
set_option maxRecDepth 100000
theorem awake48 (lim : Nat) (H : Heap) : acall sig 400 lim 9 [] H = some (.v (.bool true), H) := by kernel_rfl
end Go.Proofs.YtocmcdejkoejhaaDoor
