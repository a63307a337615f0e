/-
  The chapter's example, evaluated.
-/
import Derived.Test.YtmkalakojfpfgaaAmL
import Derived.Test.YtmkalakojfpfgaaSig
namespace Go.Proofs.Ytmkalakojfpfgaa
open Go Go.Am
set_option maxRecDepth 100000
theorem awake_ok (lim : Nat) (H : Heap) : acall sig 200 lim 7 [] H = some (.v (.bool true), H) := by kernel_rfl
end Go.Proofs.Ytmkalakojfpfgaa
