/-
  No cell of these rows narrows 'for every input' (looked for: loops, veiled, ifaces, maps, wideKeys, modest, calm, conditions, laid).
  DERIVED. THE GIVEN ROWS OF THIS SEAT. 7 by the template 'for every input the law returns true; each argument reads behind the call as it read before'; 0 by the template 'total and deterministic' (their statements: YtdkhgpdojjdadaaTotals.lean).
  GIVEN WITH THE SEED: the statements are not yours to turn. If you find one false, say at which input.
  Laid BY PROGRAM, IN A SANDBOX (cutbox-rows.mjs): the forced cells as the released guide's own fill.sh prints them over the translation bccaf1e28143320d… (all of the seat's roots in one cut). By AI agents, Wed Nov 11 2026. No macro, syntax, notation, axiom, sorry.
-/
import Derived.Test.YtdkhgpdojjdadaaChecked
import GoSem.Claim
import GoSem.ClaimJoined
import GoSem.ClaimMapViews
import Derived.JoinedTies
import Derived.KernelRfl
namespace Go.Proofs.Ytdkhgpdojjdadaa
/- THE CELL 'sum', in the pinned program and in every row, IS THE sha256 OF THE DUMP (.gsa) THAT YtdkhgpdojjdadaaProg.lean LOADS. Nothing in Lean hashes anything: it is a label: what it is worth is what the hold of that sum in a sandbox is worth. -/
noncomputable def Try.pinned : Pinned := { name := "ytdkhgpdojjdadaa", sum := "bccaf1e28143320d34196ebe946df4ca5f9826200c889ebd2f03ccd87b1e8007", checked := Try.checked }
namespace Rows
def none {H : Type} : Left H := { results := [], args := [] }

/-- 'scorebooklaw38.FitRepairs': WHATEVER THE INPUT: true; the input reads as it did. -/
def fitRepairsSpec : ChangeSpec := { name := "fitRepairs", fn := fun _ => fun
  | [d] => { results := [.lit (.bool true)], args := [d] }
  | _ => none }
def fitRepairsRow : OpenClaim := { program := "ytdkhgpdojjdadaa", sum := "bccaf1e28143320d34196ebe946df4ca5f9826200c889ebd2f03ccd87b1e8007", func := "scorebook/scorebooklaw38.FitRepairs", spec := "fitRepairs", unfollowed := true, recurses := true, apart := false }
def FitRepairsSaid : Prop := fitRepairsRow.holds Try.pinned (OpenSpec.ofChange fitRepairsSpec)

/-- ITS FALSE NEIGHBOUR: 'it returns false'. Refute it at one input. -/
def fitRepairsWrong : ChangeSpec := { name := "fitRepairs", fn := fun _ => fun
  | [d] => { results := [.lit (.bool false)], args := [d] }
  | _ => none }
def FitRepairsWrongFalsely : Prop := fitRepairsRow.holds Try.pinned (OpenSpec.ofChange fitRepairsWrong)

/-- 'scorebooklaw38.FitStays': WHATEVER THE INPUT: true; the input reads as it did. -/
def fitStaysSpec : ChangeSpec := { name := "fitStays", fn := fun _ => fun
  | [d] => { results := [.lit (.bool true)], args := [d] }
  | _ => none }
def fitStaysRow : OpenClaim := { program := "ytdkhgpdojjdadaa", sum := "bccaf1e28143320d34196ebe946df4ca5f9826200c889ebd2f03ccd87b1e8007", func := "scorebook/scorebooklaw38.FitStays", spec := "fitStays", unfollowed := true, recurses := true, apart := false }
def FitStaysSaid : Prop := fitStaysRow.holds Try.pinned (OpenSpec.ofChange fitStaysSpec)

/-- ITS FALSE NEIGHBOUR: 'it returns false'. Refute it at one input. -/
def fitStaysWrong : ChangeSpec := { name := "fitStays", fn := fun _ => fun
  | [d] => { results := [.lit (.bool false)], args := [d] }
  | _ => none }
def FitStaysWrongFalsely : Prop := fitStaysRow.holds Try.pinned (OpenSpec.ofChange fitStaysWrong)

/-- 'scorebooklaw38.FitMeans': WHATEVER THE INPUT: true; the input reads as it did. -/
def fitMeansSpec : ChangeSpec := { name := "fitMeans", fn := fun _ => fun
  | [d1, d2] => { results := [.lit (.bool true)], args := [d1, d2] }
  | _ => none }
def fitMeansRow : OpenClaim := { program := "ytdkhgpdojjdadaa", sum := "bccaf1e28143320d34196ebe946df4ca5f9826200c889ebd2f03ccd87b1e8007", func := "scorebook/scorebooklaw38.FitMeans", spec := "fitMeans", unfollowed := true, recurses := true, apart := false }
def FitMeansSaid : Prop := fitMeansRow.holds Try.pinned (OpenSpec.ofChange fitMeansSpec)

/-- ITS FALSE NEIGHBOUR: 'it returns false'. Refute it at one input. -/
def fitMeansWrong : ChangeSpec := { name := "fitMeans", fn := fun _ => fun
  | [d1, d2] => { results := [.lit (.bool false)], args := [d1, d2] }
  | _ => none }
def FitMeansWrongFalsely : Prop := fitMeansRow.holds Try.pinned (OpenSpec.ofChange fitMeansWrong)

/-- 'scorebooklaw38.FitOrder': WHATEVER THE INPUT: true; the input reads as it did. -/
def fitOrderSpec : ChangeSpec := { name := "fitOrder", fn := fun _ => fun
  | [d1, d2] => { results := [.lit (.bool true)], args := [d1, d2] }
  | _ => none }
def fitOrderRow : OpenClaim := { program := "ytdkhgpdojjdadaa", sum := "bccaf1e28143320d34196ebe946df4ca5f9826200c889ebd2f03ccd87b1e8007", func := "scorebook/scorebooklaw38.FitOrder", spec := "fitOrder", unfollowed := true, recurses := true, apart := false }
def FitOrderSaid : Prop := fitOrderRow.holds Try.pinned (OpenSpec.ofChange fitOrderSpec)

/-- ITS FALSE NEIGHBOUR: 'it returns false'. Refute it at one input. -/
def fitOrderWrong : ChangeSpec := { name := "fitOrder", fn := fun _ => fun
  | [d1, d2] => { results := [.lit (.bool false)], args := [d1, d2] }
  | _ => none }
def FitOrderWrongFalsely : Prop := fitOrderRow.holds Try.pinned (OpenSpec.ofChange fitOrderWrong)

/-- 'scorebooklaw38.FitCompares': WHATEVER THE INPUT: true; the input reads as it did. -/
def fitComparesSpec : ChangeSpec := { name := "fitCompares", fn := fun _ => fun
  | [d1, d2] => { results := [.lit (.bool true)], args := [d1, d2] }
  | _ => none }
def fitComparesRow : OpenClaim := { program := "ytdkhgpdojjdadaa", sum := "bccaf1e28143320d34196ebe946df4ca5f9826200c889ebd2f03ccd87b1e8007", func := "scorebook/scorebooklaw38.FitCompares", spec := "fitCompares", unfollowed := true, recurses := true, apart := false }
def FitComparesSaid : Prop := fitComparesRow.holds Try.pinned (OpenSpec.ofChange fitComparesSpec)

/-- ITS FALSE NEIGHBOUR: 'it returns false'. Refute it at one input. -/
def fitComparesWrong : ChangeSpec := { name := "fitCompares", fn := fun _ => fun
  | [d1, d2] => { results := [.lit (.bool false)], args := [d1, d2] }
  | _ => none }
def FitComparesWrongFalsely : Prop := fitComparesRow.holds Try.pinned (OpenSpec.ofChange fitComparesWrong)

/-- 'scorebooklaw38.FitLeast': WHATEVER THE INPUT: true; the input reads as it did. -/
def fitLeastSpec : ChangeSpec := { name := "fitLeast", fn := fun _ => fun
  | [d1, d2] => { results := [.lit (.bool true)], args := [d1, d2] }
  | _ => none }
def fitLeastRow : OpenClaim := { program := "ytdkhgpdojjdadaa", sum := "bccaf1e28143320d34196ebe946df4ca5f9826200c889ebd2f03ccd87b1e8007", func := "scorebook/scorebooklaw38.FitLeast", spec := "fitLeast", unfollowed := true, recurses := true, apart := false }
def FitLeastSaid : Prop := fitLeastRow.holds Try.pinned (OpenSpec.ofChange fitLeastSpec)

/-- ITS FALSE NEIGHBOUR: 'it returns false'. Refute it at one input. -/
def fitLeastWrong : ChangeSpec := { name := "fitLeast", fn := fun _ => fun
  | [d1, d2] => { results := [.lit (.bool false)], args := [d1, d2] }
  | _ => none }
def FitLeastWrongFalsely : Prop := fitLeastRow.holds Try.pinned (OpenSpec.ofChange fitLeastWrong)

/-- 'scorebooklaw38.FitMeets': WHATEVER THE INPUT: true; the input reads as it did. -/
def fitMeetsSpec : ChangeSpec := { name := "fitMeets", fn := fun _ => fun
  | [d1, d2] => { results := [.lit (.bool true)], args := [d1, d2] }
  | _ => none }
def fitMeetsRow : OpenClaim := { program := "ytdkhgpdojjdadaa", sum := "bccaf1e28143320d34196ebe946df4ca5f9826200c889ebd2f03ccd87b1e8007", func := "scorebook/scorebooklaw38.FitMeets", spec := "fitMeets", unfollowed := true, recurses := true, apart := false }
def FitMeetsSaid : Prop := fitMeetsRow.holds Try.pinned (OpenSpec.ofChange fitMeetsSpec)

/-- ITS FALSE NEIGHBOUR: 'it returns false'. Refute it at one input. -/
def fitMeetsWrong : ChangeSpec := { name := "fitMeets", fn := fun _ => fun
  | [d1, d2] => { results := [.lit (.bool false)], args := [d1, d2] }
  | _ => none }
def FitMeetsWrongFalsely : Prop := fitMeetsRow.holds Try.pinned (OpenSpec.ofChange fitMeetsWrong)

/- THE SECOND FORM. 'bulk': how many values and letters a reading holds, each counted each time it is reached (what is shared counts as often as it is met; a slice's spare places count too). A statement '..UptoSaid' is the law's where the arguments, and the package variables that the reading takes, are together of bulk at most 1048576: NARROWER than '..Said'. Prove '..Said' where nothing that the law and all that it calls make is longer than what came in: it says more and counts as full. Else prove '..UptoSaid'. A law counts once. -/
mutual
def uptoBulk {H : Type} : DataW H → Nat
  | .lit (.string bytes) => bytes.length + 1
  | .lit _ => 1
  | .nil => 1
  | .ptr d => uptoBulk d + 1
  | .slice elems spare => uptoBulkAll elems + uptoBulkAll spare + 1
  | .agg parts => uptoBulkAll parts + 1
  | .iface _ d => uptoBulk d + 1
  | .map entries => uptoBulkEntries entries + 1
  | .held _ => 1
def uptoBulkAll {H : Type} : List (DataW H) → Nat
  | [] => 0
  | d :: r => uptoBulk d + uptoBulkAll r
def uptoBulkEntries {H : Type} : List (Lit × DataW H) → Nat
  | [] => 0
  | x :: r => uptoBulkEntry x + uptoBulkEntries r
def uptoBulkEntry {H : Type} : Lit × DataW H → Nat
  | (.string bytes, d) => bytes.length + uptoBulk d + 1
  | (_, d) => uptoBulk d + 1
 end
def uptoSmall : (H : Type) → List (DataW H) → Bool := fun _ ds => decide (uptoBulkAll ds ≤ 1048576)
def OpenSpec.upto (s : _root_.Go.ChangeSpec) : _root_.Go.OpenSpec := { _root_.Go.OpenSpec.ofChange s with cond := some uptoSmall }

/-- 'scorebooklaw38.FitRepairs', WHERE WHAT IT READS IS OF BULK AT MOST 1048576: true; the input reads as it did. -/
def fitRepairsUptoRow : OpenClaim := { program := "ytdkhgpdojjdadaa", sum := "bccaf1e28143320d34196ebe946df4ca5f9826200c889ebd2f03ccd87b1e8007", func := "scorebook/scorebooklaw38.FitRepairs", spec := "fitRepairs", unfollowed := true, recurses := true, apart := false, narrowed := true }
def FitRepairsUptoSaid : Prop := fitRepairsUptoRow.holds Try.pinned (OpenSpec.upto fitRepairsSpec)

/-- 'scorebooklaw38.FitStays', WHERE WHAT IT READS IS OF BULK AT MOST 1048576: true; the input reads as it did. -/
def fitStaysUptoRow : OpenClaim := { program := "ytdkhgpdojjdadaa", sum := "bccaf1e28143320d34196ebe946df4ca5f9826200c889ebd2f03ccd87b1e8007", func := "scorebook/scorebooklaw38.FitStays", spec := "fitStays", unfollowed := true, recurses := true, apart := false, narrowed := true }
def FitStaysUptoSaid : Prop := fitStaysUptoRow.holds Try.pinned (OpenSpec.upto fitStaysSpec)

/-- 'scorebooklaw38.FitMeans', WHERE WHAT IT READS IS OF BULK AT MOST 1048576: true; the input reads as it did. -/
def fitMeansUptoRow : OpenClaim := { program := "ytdkhgpdojjdadaa", sum := "bccaf1e28143320d34196ebe946df4ca5f9826200c889ebd2f03ccd87b1e8007", func := "scorebook/scorebooklaw38.FitMeans", spec := "fitMeans", unfollowed := true, recurses := true, apart := false, narrowed := true }
def FitMeansUptoSaid : Prop := fitMeansUptoRow.holds Try.pinned (OpenSpec.upto fitMeansSpec)

/-- 'scorebooklaw38.FitOrder', WHERE WHAT IT READS IS OF BULK AT MOST 1048576: true; the input reads as it did. -/
def fitOrderUptoRow : OpenClaim := { program := "ytdkhgpdojjdadaa", sum := "bccaf1e28143320d34196ebe946df4ca5f9826200c889ebd2f03ccd87b1e8007", func := "scorebook/scorebooklaw38.FitOrder", spec := "fitOrder", unfollowed := true, recurses := true, apart := false, narrowed := true }
def FitOrderUptoSaid : Prop := fitOrderUptoRow.holds Try.pinned (OpenSpec.upto fitOrderSpec)

/-- 'scorebooklaw38.FitCompares', WHERE WHAT IT READS IS OF BULK AT MOST 1048576: true; the input reads as it did. -/
def fitComparesUptoRow : OpenClaim := { program := "ytdkhgpdojjdadaa", sum := "bccaf1e28143320d34196ebe946df4ca5f9826200c889ebd2f03ccd87b1e8007", func := "scorebook/scorebooklaw38.FitCompares", spec := "fitCompares", unfollowed := true, recurses := true, apart := false, narrowed := true }
def FitComparesUptoSaid : Prop := fitComparesUptoRow.holds Try.pinned (OpenSpec.upto fitComparesSpec)

/-- 'scorebooklaw38.FitLeast', WHERE WHAT IT READS IS OF BULK AT MOST 1048576: true; the input reads as it did. -/
def fitLeastUptoRow : OpenClaim := { program := "ytdkhgpdojjdadaa", sum := "bccaf1e28143320d34196ebe946df4ca5f9826200c889ebd2f03ccd87b1e8007", func := "scorebook/scorebooklaw38.FitLeast", spec := "fitLeast", unfollowed := true, recurses := true, apart := false, narrowed := true }
def FitLeastUptoSaid : Prop := fitLeastUptoRow.holds Try.pinned (OpenSpec.upto fitLeastSpec)

/-- 'scorebooklaw38.FitMeets', WHERE WHAT IT READS IS OF BULK AT MOST 1048576: true; the input reads as it did. -/
def fitMeetsUptoRow : OpenClaim := { program := "ytdkhgpdojjdadaa", sum := "bccaf1e28143320d34196ebe946df4ca5f9826200c889ebd2f03ccd87b1e8007", func := "scorebook/scorebooklaw38.FitMeets", spec := "fitMeets", unfollowed := true, recurses := true, apart := false, narrowed := true }
def FitMeetsUptoSaid : Prop := fitMeetsUptoRow.holds Try.pinned (OpenSpec.upto fitMeetsSpec)

end Rows
end Go.Proofs.Ytdkhgpdojjdadaa
