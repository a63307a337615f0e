/-
  What is known of the package variables in every world that the abstract machine passes.
-/
import Derived.Test.YtfnapmdedmbdbaaDoorAmD
import Derived.Test.YtfnapmdedmbdbaaDoorProg
import Derived.Lib.LaidTab
import Derived.Lib.ItoaNum
namespace Go.Am
open Go
def Tb (w : World) : Prop := Lib.TabIs Go.Proofs.Tryd.prog w "internal/strconv.uint64pow10" .u64 Lib.pow10Tab
end Go.Am
