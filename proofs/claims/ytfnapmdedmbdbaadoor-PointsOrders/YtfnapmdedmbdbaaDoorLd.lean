/-
  The listed package variables: from the row's condition to what the walk asks, and a world that meets the condition.
-/
import Derived.Test.YtfnapmdedmbdbaaDoorRows
import Derived.Test.YtfnapmdedmbdbaaDoorTb
import Derived.ProofKit
import Derived.LaidLaws
import Derived.Handed
import Derived.Lib.LaidTab
set_option linter.unusedVariables false
namespace Go.Proofs.YtfnapmdedmbdbaaDoor
open Go Go.Am Go.ChangeShapes Go.WideShapes Go.ChangeAt Go.RowKit
theorem ldG : Tryd.prog.globalNamed "internal/strconv.uint64pow10" = some 0 := by kernel_rfl
theorem ldT : (Tryd.prog.globals[0]?).map (·.type) = some 135 := by kernel_rfl
theorem ldD : (Rows.laid_internal_strconv_uint64pow10 : DataW Unit) = Lib.tabData .u64 Lib.pow10Tab := by rfl
theorem ldTab {W : World} {a b : String × DataW Unit} (h : laidMet Tryd.prog [a, b, ("internal/strconv.uint64pow10", Rows.laid_internal_strconv_uint64pow10)] W) : Lib.TabIs Tryd.prog W "internal/strconv.uint64pow10" .u64 Lib.pow10Tab := by
  rw [ldD] at h
  obtain ⟨ps, ⟨_, _, _, _, _, q1, _, _, _, _, ⟨_, _, _, _, _, q2, _, _, _, _, ⟨g', t', cs, fuel, p, q, hg', ht', hvar, hd, _, _⟩, _⟩, _⟩, _⟩ := h
  obtain rfl := Option.some.inj (ldG.symm.trans hg')
  obtain rfl := Option.some.inj (ldT.symm.trans ht')
  unfold Lib.TabIs
  rw [hvar, ← Lib.cells_of_tab Tryd.underlying135 Tryd.underlying49 (by kernel_rfl) (by kernel_rfl) hd]
theorem tb_keep {W w1 : World} (h : Lib.TabIs Tryd.prog W "internal/strconv.uint64pow10" .u64 Lib.pow10Tab) (hk : ∀ k, k < W.heap.size → w1.heap[k]? = W.heap[k]?) : Tb w1 := by
  unfold Tb
  unfold Lib.TabIs World.var? at *
  rw [ldG] at h ⊢
  simp only [Option.bind_some] at h ⊢
  have hlt : 0 < W.heap.size := by
    rcases Nat.lt_or_ge 0 W.heap.size with h' | h'
    · exact h'
    · simp [Array.getElem?_eq_none h'] at h
  rw [hk 0 hlt]
  exact h
def litsOf (d : DataW Unit) : Array Value :=
  match d with
  | .agg l => (l.map fun | .lit (.int k z) => Value.int k z | _ => Value.int .u8 0).toArray
  | _ => #[]
/-- The settled world, the tables laid. -/
noncomputable def ldWorld (os : Os) : World :=
  let w0 := World.holding Tryd.prog os ⟨#[], #[], []⟩
  let put := fun (h : Array Obj) (g : Nat) (cs : Array Value) => h.modify g fun
      | .cells _ t frozen => .cells cs t frozen
      | o => o
  { w0 with heap := put (put (put w0.heap 0 (litsOf Rows.laid_internal_strconv_uint64pow10)) 2 (litsOf Rows.laid_math_bits_deBruijn32tab)) 3 (litsOf Rows.laid_math_bits_deBruijn64tab) }
theorem ld_met (os : Os) (args : Array Value) : laidMet Tryd.prog Rows.pointsComparesRow.laid ((ldWorld os).forCall (fun _ _ => 0) ⟨#[], args, []⟩).memory :=
  laidMet_of_run' 200 (by kernel_rfl) (by kernel_rfl)
end Go.Proofs.YtfnapmdedmbdbaaDoor
