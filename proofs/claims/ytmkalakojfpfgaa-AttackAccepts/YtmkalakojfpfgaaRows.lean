/-
  No cell of these rows narrows 'for every input' (looked for: loops, veiled, ifaces, maps, wideKeys, modest, calm, conditions, laid).
  DERIVED. THE GIVEN ROWS OF THIS SEAT. 4 by the template 'for every input the law returns true; each argument reads behind the call as it read before'; 0 by the template 'total and deterministic' (their statements: YtmkalakojfpfgaaTotals.lean).
  GIVEN WITH THE SEED: the statements are not yours to turn. If you find one false, say at which input.
  Laid BY PROGRAM, IN A SANDBOX (cutbox-rows.mjs): the forced cells as the released guide's own fill.sh prints them over the translation e54dd8e8fd29ad4c… (all of the seat's roots in one cut). By AI agents, Wed Nov 11 2026. No macro, syntax, notation, axiom, sorry.
-/
import Derived.Test.YtmkalakojfpfgaaChecked
import GoSem.Claim
import GoSem.ClaimJoined
import GoSem.ClaimMapViews
import Derived.JoinedTies
import Derived.KernelRfl
namespace Go.Proofs.Ytmkalakojfpfgaa
/- THE CELL 'sum', in the pinned program and in every row, IS THE sha256 OF THE DUMP (.gsa) THAT YtmkalakojfpfgaaProg.lean LOADS. Nothing in Lean hashes anything: it is a label: what it is worth is what the hold of that sum in a sandbox is worth. -/
noncomputable def Try.pinned : Pinned := { name := "ytmkalakojfpfgaa", sum := "e54dd8e8fd29ad4c144bdf267c0c8e2f2c1ffbd6bd8512165f2ed2b7a96b4087", checked := Try.checked }
namespace Rows
def none {H : Type} : Left H := { results := [], args := [] }

/-- 'scorebooklaw46.AttackChecks': WHATEVER THE INPUT: true; the input reads as it did. -/
def attackChecksSpec : ChangeSpec := { name := "attackChecks", fn := fun _ => fun
  | [d1, d2] => { results := [.lit (.bool true)], args := [d1, d2] }
  | _ => none }
def attackChecksRow : OpenClaim := { program := "ytmkalakojfpfgaa", sum := "e54dd8e8fd29ad4c144bdf267c0c8e2f2c1ffbd6bd8512165f2ed2b7a96b4087", func := "scorebook/scorebooklaw46.AttackChecks", spec := "attackChecks", recurses := true, apart := false }
def AttackChecksSaid : Prop := attackChecksRow.holds Try.pinned (OpenSpec.ofChange attackChecksSpec)

/-- ITS FALSE NEIGHBOUR: 'it returns false'. Refute it at one input. -/
def attackChecksWrong : ChangeSpec := { name := "attackChecks", fn := fun _ => fun
  | [d1, d2] => { results := [.lit (.bool false)], args := [d1, d2] }
  | _ => none }
def AttackChecksWrongFalsely : Prop := attackChecksRow.holds Try.pinned (OpenSpec.ofChange attackChecksWrong)

/-- 'scorebooklaw46.AttackBest': WHATEVER THE INPUT: true; the input reads as it did. -/
def attackBestSpec : ChangeSpec := { name := "attackBest", fn := fun _ => fun
  | [d] => { results := [.lit (.bool true)], args := [d] }
  | _ => none }
def attackBestRow : OpenClaim := { program := "ytmkalakojfpfgaa", sum := "e54dd8e8fd29ad4c144bdf267c0c8e2f2c1ffbd6bd8512165f2ed2b7a96b4087", func := "scorebook/scorebooklaw46.AttackBest", spec := "attackBest", recurses := true, apart := false }
def AttackBestSaid : Prop := attackBestRow.holds Try.pinned (OpenSpec.ofChange attackBestSpec)

/-- ITS FALSE NEIGHBOUR: 'it returns false'. Refute it at one input. -/
def attackBestWrong : ChangeSpec := { name := "attackBest", fn := fun _ => fun
  | [d] => { results := [.lit (.bool false)], args := [d] }
  | _ => none }
def AttackBestWrongFalsely : Prop := attackBestRow.holds Try.pinned (OpenSpec.ofChange attackBestWrong)

/-- 'scorebooklaw46.AttackLeast': WHATEVER THE INPUT: true; the input reads as it did. -/
def attackLeastSpec : ChangeSpec := { name := "attackLeast", fn := fun _ => fun
  | [d1, d2] => { results := [.lit (.bool true)], args := [d1, d2] }
  | _ => none }
def attackLeastRow : OpenClaim := { program := "ytmkalakojfpfgaa", sum := "e54dd8e8fd29ad4c144bdf267c0c8e2f2c1ffbd6bd8512165f2ed2b7a96b4087", func := "scorebook/scorebooklaw46.AttackLeast", spec := "attackLeast", recurses := true, apart := false }
def AttackLeastSaid : Prop := attackLeastRow.holds Try.pinned (OpenSpec.ofChange attackLeastSpec)

/-- ITS FALSE NEIGHBOUR: 'it returns false'. Refute it at one input. -/
def attackLeastWrong : ChangeSpec := { name := "attackLeast", fn := fun _ => fun
  | [d1, d2] => { results := [.lit (.bool false)], args := [d1, d2] }
  | _ => none }
def AttackLeastWrongFalsely : Prop := attackLeastRow.holds Try.pinned (OpenSpec.ofChange attackLeastWrong)

/-- 'scorebooklaw46.AttackAccepts': WHATEVER THE INPUT: true; the input reads as it did. -/
def attackAcceptsSpec : ChangeSpec := { name := "attackAccepts", fn := fun _ => fun
  | [d1, d2, d3] => { results := [.lit (.bool true)], args := [d1, d2, d3] }
  | _ => none }
def attackAcceptsRow : OpenClaim := { program := "ytmkalakojfpfgaa", sum := "e54dd8e8fd29ad4c144bdf267c0c8e2f2c1ffbd6bd8512165f2ed2b7a96b4087", func := "scorebook/scorebooklaw46.AttackAccepts", spec := "attackAccepts", recurses := true, apart := false }
def AttackAcceptsSaid : Prop := attackAcceptsRow.holds Try.pinned (OpenSpec.ofChange attackAcceptsSpec)

/-- ITS FALSE NEIGHBOUR: 'it returns false'. Refute it at one input. -/
def attackAcceptsWrong : ChangeSpec := { name := "attackAccepts", fn := fun _ => fun
  | [d1, d2, d3] => { results := [.lit (.bool false)], args := [d1, d2, d3] }
  | _ => none }
def AttackAcceptsWrongFalsely : Prop := attackAcceptsRow.holds Try.pinned (OpenSpec.ofChange attackAcceptsWrong)

/- THE SECOND FORM. 'bulk': how many values and letters a reading holds, each counted each time it is reached (what is shared counts as often as it is met; a slice's spare places count too). A statement '..UptoSaid' is the law's where the arguments, and the package variables that the reading takes, are together of bulk at most 1048576: NARROWER than '..Said'. Prove '..Said' where nothing that the law and all that it calls make is longer than what came in: it says more and counts as full. Else prove '..UptoSaid'. A law counts once. -/
mutual
def uptoBulk {H : Type} : DataW H → Nat
  | .lit (.string bytes) => bytes.length + 1
  | .lit _ => 1
  | .nil => 1
  | .ptr d => uptoBulk d + 1
  | .slice elems spare => uptoBulkAll elems + uptoBulkAll spare + 1
  | .agg parts => uptoBulkAll parts + 1
  | .iface _ d => uptoBulk d + 1
  | .map entries => uptoBulkEntries entries + 1
  | .held _ => 1
def uptoBulkAll {H : Type} : List (DataW H) → Nat
  | [] => 0
  | d :: r => uptoBulk d + uptoBulkAll r
def uptoBulkEntries {H : Type} : List (Lit × DataW H) → Nat
  | [] => 0
  | x :: r => uptoBulkEntry x + uptoBulkEntries r
def uptoBulkEntry {H : Type} : Lit × DataW H → Nat
  | (.string bytes, d) => bytes.length + uptoBulk d + 1
  | (_, d) => uptoBulk d + 1
 end
def uptoSmall : (H : Type) → List (DataW H) → Bool := fun _ ds => decide (uptoBulkAll ds ≤ 1048576)
def OpenSpec.upto (s : _root_.Go.ChangeSpec) : _root_.Go.OpenSpec := { _root_.Go.OpenSpec.ofChange s with cond := some uptoSmall }

/-- 'scorebooklaw46.AttackChecks', WHERE WHAT IT READS IS OF BULK AT MOST 1048576: true; the input reads as it did. -/
def attackChecksUptoRow : OpenClaim := { program := "ytmkalakojfpfgaa", sum := "e54dd8e8fd29ad4c144bdf267c0c8e2f2c1ffbd6bd8512165f2ed2b7a96b4087", func := "scorebook/scorebooklaw46.AttackChecks", spec := "attackChecks", recurses := true, apart := false, narrowed := true }
def AttackChecksUptoSaid : Prop := attackChecksUptoRow.holds Try.pinned (OpenSpec.upto attackChecksSpec)

/-- 'scorebooklaw46.AttackBest', WHERE WHAT IT READS IS OF BULK AT MOST 1048576: true; the input reads as it did. -/
def attackBestUptoRow : OpenClaim := { program := "ytmkalakojfpfgaa", sum := "e54dd8e8fd29ad4c144bdf267c0c8e2f2c1ffbd6bd8512165f2ed2b7a96b4087", func := "scorebook/scorebooklaw46.AttackBest", spec := "attackBest", recurses := true, apart := false, narrowed := true }
def AttackBestUptoSaid : Prop := attackBestUptoRow.holds Try.pinned (OpenSpec.upto attackBestSpec)

/-- 'scorebooklaw46.AttackLeast', WHERE WHAT IT READS IS OF BULK AT MOST 1048576: true; the input reads as it did. -/
def attackLeastUptoRow : OpenClaim := { program := "ytmkalakojfpfgaa", sum := "e54dd8e8fd29ad4c144bdf267c0c8e2f2c1ffbd6bd8512165f2ed2b7a96b4087", func := "scorebook/scorebooklaw46.AttackLeast", spec := "attackLeast", recurses := true, apart := false, narrowed := true }
def AttackLeastUptoSaid : Prop := attackLeastUptoRow.holds Try.pinned (OpenSpec.upto attackLeastSpec)

/-- 'scorebooklaw46.AttackAccepts', WHERE WHAT IT READS IS OF BULK AT MOST 1048576: true; the input reads as it did. -/
def attackAcceptsUptoRow : OpenClaim := { program := "ytmkalakojfpfgaa", sum := "e54dd8e8fd29ad4c144bdf267c0c8e2f2c1ffbd6bd8512165f2ed2b7a96b4087", func := "scorebook/scorebooklaw46.AttackAccepts", spec := "attackAccepts", recurses := true, apart := false, narrowed := true }
def AttackAcceptsUptoSaid : Prop := attackAcceptsUptoRow.holds Try.pinned (OpenSpec.upto attackAcceptsSpec)

end Rows
end Go.Proofs.Ytmkalakojfpfgaa
