/-
  What is known of the package variables in every world that the abstract machine passes.
-/
import Derived.Test.YtcnleglfdnhagaaAmD
namespace Go.Am
open Go
def Tb (_ : World) : Prop := True
end Go.Am
