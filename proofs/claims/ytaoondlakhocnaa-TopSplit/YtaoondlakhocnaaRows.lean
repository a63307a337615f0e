/-
  No cell of these rows narrows 'for every input' (looked for: loops, veiled, ifaces, maps, wideKeys, modest, calm, conditions, laid).
  DERIVED. THE GIVEN ROWS OF THIS SEAT. 13 by the template 'for every input the law returns true; each argument reads behind the call as it read before'; 0 by the template 'total and deterministic' (their statements: YtaoondlakhocnaaTotals.lean).
  GIVEN WITH THE SEED: the statements are not yours to turn. If you find one false, say at which input.
  Laid BY PROGRAM, IN A SANDBOX (cutbox-rows.mjs): the forced cells as the released guide's own fill.sh prints them over the translation 128c1a32498318d3… (all of the seat's roots in one cut). By AI agents, Wed Nov 11 2026. No macro, syntax, notation, axiom, sorry.
-/
import Derived.Test.YtaoondlakhocnaaChecked
import GoSem.Claim
import GoSem.ClaimJoined
import GoSem.ClaimMapViews
import Derived.JoinedTies
import Derived.KernelRfl
namespace Go.Proofs.Ytaoondlakhocnaa
/- THE CELL 'sum', in the pinned program and in every row, IS THE sha256 OF THE DUMP (.gsa) THAT YtaoondlakhocnaaProg.lean LOADS. Nothing in Lean hashes anything: it is a label: what it is worth is what the hold of that sum in a sandbox is worth. -/
noncomputable def Try.pinned : Pinned := { name := "ytaoondlakhocnaa", sum := "128c1a32498318d36cbbc4ce40c4e3311824abad4aad7d2c94216c9ab890ef39", checked := Try.checked }
namespace Rows
def none {H : Type} : Left H := { results := [], args := [] }

/-- 'scorebooktop.TopSplit': WHATEVER THE INPUT: true; the input reads as it did. -/
def topSplitSpec : ChangeSpec := { name := "topSplit", fn := fun _ => fun
  | [d1, d2, d3] => { results := [.lit (.bool true)], args := [d1, d2, d3] }
  | _ => none }
def topSplitRow : OpenClaim := { program := "ytaoondlakhocnaa", sum := "128c1a32498318d36cbbc4ce40c4e3311824abad4aad7d2c94216c9ab890ef39", func := "scorebook/scorebooktop.TopSplit", spec := "topSplit", inPlace := ["slices.overlaps[scorebook/api.Stop]"], apart := false }
def TopSplitSaid : Prop := topSplitRow.holds Try.pinned (OpenSpec.ofChange topSplitSpec)

/-- ITS FALSE NEIGHBOUR: 'it returns false'. Refute it at one input. -/
def topSplitWrong : ChangeSpec := { name := "topSplit", fn := fun _ => fun
  | [d1, d2, d3] => { results := [.lit (.bool false)], args := [d1, d2, d3] }
  | _ => none }
def TopSplitWrongFalsely : Prop := topSplitRow.holds Try.pinned (OpenSpec.ofChange topSplitWrong)

/-- 'scorebooklaw40.TargetRevises': WHATEVER THE INPUT: true; the input reads as it did. -/
def targetRevisesSpec : ChangeSpec := { name := "targetRevises", fn := fun _ => fun
  | [d1, d2] => { results := [.lit (.bool true)], args := [d1, d2] }
  | _ => none }
def targetRevisesRow : OpenClaim := { program := "ytaoondlakhocnaa", sum := "128c1a32498318d36cbbc4ce40c4e3311824abad4aad7d2c94216c9ab890ef39", func := "scorebook/scorebooklaw40.TargetRevises", spec := "targetRevises", apart := false }
def TargetRevisesSaid : Prop := targetRevisesRow.holds Try.pinned (OpenSpec.ofChange targetRevisesSpec)

/-- ITS FALSE NEIGHBOUR: 'it returns false'. Refute it at one input. -/
def targetRevisesWrong : ChangeSpec := { name := "targetRevises", fn := fun _ => fun
  | [d1, d2] => { results := [.lit (.bool false)], args := [d1, d2] }
  | _ => none }
def TargetRevisesWrongFalsely : Prop := targetRevisesRow.holds Try.pinned (OpenSpec.ofChange targetRevisesWrong)

/-- 'scorebooklaw40.TargetRises': WHATEVER THE INPUT: true; the input reads as it did. -/
def targetRisesSpec : ChangeSpec := { name := "targetRises", fn := fun _ => fun
  | [d1, d2] => { results := [.lit (.bool true)], args := [d1, d2] }
  | _ => none }
def targetRisesRow : OpenClaim := { program := "ytaoondlakhocnaa", sum := "128c1a32498318d36cbbc4ce40c4e3311824abad4aad7d2c94216c9ab890ef39", func := "scorebook/scorebooklaw40.TargetRises", spec := "targetRises", apart := false }
def TargetRisesSaid : Prop := targetRisesRow.holds Try.pinned (OpenSpec.ofChange targetRisesSpec)

/-- ITS FALSE NEIGHBOUR: 'it returns false'. Refute it at one input. -/
def targetRisesWrong : ChangeSpec := { name := "targetRises", fn := fun _ => fun
  | [d1, d2] => { results := [.lit (.bool false)], args := [d1, d2] }
  | _ => none }
def TargetRisesWrongFalsely : Prop := targetRisesRow.holds Try.pinned (OpenSpec.ofChange targetRisesWrong)

/-- 'scorebooklaw40.TargetLevels': WHATEVER THE INPUT: true; the input reads as it did. -/
def targetLevelsSpec : ChangeSpec := { name := "targetLevels", fn := fun _ => fun
  | [d1, d2] => { results := [.lit (.bool true)], args := [d1, d2] }
  | _ => none }
def targetLevelsRow : OpenClaim := { program := "ytaoondlakhocnaa", sum := "128c1a32498318d36cbbc4ce40c4e3311824abad4aad7d2c94216c9ab890ef39", func := "scorebook/scorebooklaw40.TargetLevels", spec := "targetLevels", apart := false }
def TargetLevelsSaid : Prop := targetLevelsRow.holds Try.pinned (OpenSpec.ofChange targetLevelsSpec)

/-- ITS FALSE NEIGHBOUR: 'it returns false'. Refute it at one input. -/
def targetLevelsWrong : ChangeSpec := { name := "targetLevels", fn := fun _ => fun
  | [d1, d2] => { results := [.lit (.bool false)], args := [d1, d2] }
  | _ => none }
def TargetLevelsWrongFalsely : Prop := targetLevelsRow.holds Try.pinned (OpenSpec.ofChange targetLevelsWrong)

/-- 'scorebooklaw40.TargetLosses': WHATEVER THE INPUT: true; the input reads as it did. -/
def targetLossesSpec : ChangeSpec := { name := "targetLosses", fn := fun _ => fun
  | [d1, d2] => { results := [.lit (.bool true)], args := [d1, d2] }
  | _ => none }
def targetLossesRow : OpenClaim := { program := "ytaoondlakhocnaa", sum := "128c1a32498318d36cbbc4ce40c4e3311824abad4aad7d2c94216c9ab890ef39", func := "scorebook/scorebooklaw40.TargetLosses", spec := "targetLosses", apart := false }
def TargetLossesSaid : Prop := targetLossesRow.holds Try.pinned (OpenSpec.ofChange targetLossesSpec)

/-- ITS FALSE NEIGHBOUR: 'it returns false'. Refute it at one input. -/
def targetLossesWrong : ChangeSpec := { name := "targetLosses", fn := fun _ => fun
  | [d1, d2] => { results := [.lit (.bool false)], args := [d1, d2] }
  | _ => none }
def TargetLossesWrongFalsely : Prop := targetLossesRow.holds Try.pinned (OpenSpec.ofChange targetLossesWrong)

/-- 'scorebooklaw40.TargetChases': WHATEVER THE INPUT: true; the input reads as it did. -/
def targetChasesSpec : ChangeSpec := { name := "targetChases", fn := fun _ => fun
  | [d1, d2, d3] => { results := [.lit (.bool true)], args := [d1, d2, d3] }
  | _ => none }
def targetChasesRow : OpenClaim := { program := "ytaoondlakhocnaa", sum := "128c1a32498318d36cbbc4ce40c4e3311824abad4aad7d2c94216c9ab890ef39", func := "scorebook/scorebooklaw40.TargetChases", spec := "targetChases", apart := false }
def TargetChasesSaid : Prop := targetChasesRow.holds Try.pinned (OpenSpec.ofChange targetChasesSpec)

/-- ITS FALSE NEIGHBOUR: 'it returns false'. Refute it at one input. -/
def targetChasesWrong : ChangeSpec := { name := "targetChases", fn := fun _ => fun
  | [d1, d2, d3] => { results := [.lit (.bool false)], args := [d1, d2, d3] }
  | _ => none }
def TargetChasesWrongFalsely : Prop := targetChasesRow.holds Try.pinned (OpenSpec.ofChange targetChasesWrong)

/-- 'scorebooklaw39.RainChecks': WHATEVER THE INPUT: true; the input reads as it did. -/
def rainChecksSpec : ChangeSpec := { name := "rainChecks", fn := fun _ => fun
  | [d] => { results := [.lit (.bool true)], args := [d] }
  | _ => none }
def rainChecksRow : OpenClaim := { program := "ytaoondlakhocnaa", sum := "128c1a32498318d36cbbc4ce40c4e3311824abad4aad7d2c94216c9ab890ef39", func := "scorebook/scorebooklaw39.RainChecks", spec := "rainChecks", inPlace := ["slices.overlaps[scorebook/api.Stop]"], unfollowed := true, recurses := true, apart := false }
def RainChecksSaid : Prop := rainChecksRow.holds Try.pinned (OpenSpec.ofChange rainChecksSpec)

/-- ITS FALSE NEIGHBOUR: 'it returns false'. Refute it at one input. -/
def rainChecksWrong : ChangeSpec := { name := "rainChecks", fn := fun _ => fun
  | [d] => { results := [.lit (.bool false)], args := [d] }
  | _ => none }
def RainChecksWrongFalsely : Prop := rainChecksRow.holds Try.pinned (OpenSpec.ofChange rainChecksWrong)

/-- 'scorebooklaw39.RainTakes': WHATEVER THE INPUT: true; the input reads as it did. -/
def rainTakesSpec : ChangeSpec := { name := "rainTakes", fn := fun _ => fun
  | [d1, d2, d3] => { results := [.lit (.bool true)], args := [d1, d2, d3] }
  | _ => none }
def rainTakesRow : OpenClaim := { program := "ytaoondlakhocnaa", sum := "128c1a32498318d36cbbc4ce40c4e3311824abad4aad7d2c94216c9ab890ef39", func := "scorebook/scorebooklaw39.RainTakes", spec := "rainTakes", inPlace := ["slices.overlaps[scorebook/api.Stop]"], unfollowed := true, recurses := true, apart := false }
def RainTakesSaid : Prop := rainTakesRow.holds Try.pinned (OpenSpec.ofChange rainTakesSpec)

/-- ITS FALSE NEIGHBOUR: 'it returns false'. Refute it at one input. -/
def rainTakesWrong : ChangeSpec := { name := "rainTakes", fn := fun _ => fun
  | [d1, d2, d3] => { results := [.lit (.bool false)], args := [d1, d2, d3] }
  | _ => none }
def RainTakesWrongFalsely : Prop := rainTakesRow.holds Try.pinned (OpenSpec.ofChange rainTakesWrong)

/-- 'scorebooklaw39.RainBounds': WHATEVER THE INPUT: true; the input reads as it did. -/
def rainBoundsSpec : ChangeSpec := { name := "rainBounds", fn := fun _ => fun
  | [d] => { results := [.lit (.bool true)], args := [d] }
  | _ => none }
def rainBoundsRow : OpenClaim := { program := "ytaoondlakhocnaa", sum := "128c1a32498318d36cbbc4ce40c4e3311824abad4aad7d2c94216c9ab890ef39", func := "scorebook/scorebooklaw39.RainBounds", spec := "rainBounds", inPlace := ["slices.overlaps[scorebook/api.Stop]"], unfollowed := true, recurses := true, apart := false }
def RainBoundsSaid : Prop := rainBoundsRow.holds Try.pinned (OpenSpec.ofChange rainBoundsSpec)

/-- ITS FALSE NEIGHBOUR: 'it returns false'. Refute it at one input. -/
def rainBoundsWrong : ChangeSpec := { name := "rainBounds", fn := fun _ => fun
  | [d] => { results := [.lit (.bool false)], args := [d] }
  | _ => none }
def RainBoundsWrongFalsely : Prop := rainBoundsRow.holds Try.pinned (OpenSpec.ofChange rainBoundsWrong)

/-- 'scorebooklaw39.RainSplits': WHATEVER THE INPUT: true; the input reads as it did. -/
def rainSplitsSpec : ChangeSpec := { name := "rainSplits", fn := fun _ => fun
  | [d1, d2, d3] => { results := [.lit (.bool true)], args := [d1, d2, d3] }
  | _ => none }
def rainSplitsRow : OpenClaim := { program := "ytaoondlakhocnaa", sum := "128c1a32498318d36cbbc4ce40c4e3311824abad4aad7d2c94216c9ab890ef39", func := "scorebook/scorebooklaw39.RainSplits", spec := "rainSplits", inPlace := ["slices.overlaps[scorebook/api.Stop]"], unfollowed := true, recurses := true, apart := false }
def RainSplitsSaid : Prop := rainSplitsRow.holds Try.pinned (OpenSpec.ofChange rainSplitsSpec)

/-- ITS FALSE NEIGHBOUR: 'it returns false'. Refute it at one input. -/
def rainSplitsWrong : ChangeSpec := { name := "rainSplits", fn := fun _ => fun
  | [d1, d2, d3] => { results := [.lit (.bool false)], args := [d1, d2, d3] }
  | _ => none }
def RainSplitsWrongFalsely : Prop := rainSplitsRow.holds Try.pinned (OpenSpec.ofChange rainSplitsWrong)

/-- 'scorebooklaw39.RainMore': WHATEVER THE INPUT: true; the input reads as it did. -/
def rainMoreSpec : ChangeSpec := { name := "rainMore", fn := fun _ => fun
  | [d1, d2] => { results := [.lit (.bool true)], args := [d1, d2] }
  | _ => none }
def rainMoreRow : OpenClaim := { program := "ytaoondlakhocnaa", sum := "128c1a32498318d36cbbc4ce40c4e3311824abad4aad7d2c94216c9ab890ef39", func := "scorebook/scorebooklaw39.RainMore", spec := "rainMore", inPlace := ["slices.overlaps[scorebook/api.Stop]"], unfollowed := true, recurses := true, apart := false }
def RainMoreSaid : Prop := rainMoreRow.holds Try.pinned (OpenSpec.ofChange rainMoreSpec)

/-- ITS FALSE NEIGHBOUR: 'it returns false'. Refute it at one input. -/
def rainMoreWrong : ChangeSpec := { name := "rainMore", fn := fun _ => fun
  | [d1, d2] => { results := [.lit (.bool false)], args := [d1, d2] }
  | _ => none }
def RainMoreWrongFalsely : Prop := rainMoreRow.holds Try.pinned (OpenSpec.ofChange rainMoreWrong)

/-- 'scorebooklaw39.RainJoins': WHATEVER THE INPUT: true; the input reads as it did. -/
def rainJoinsSpec : ChangeSpec := { name := "rainJoins", fn := fun _ => fun
  | [d] => { results := [.lit (.bool true)], args := [d] }
  | _ => none }
def rainJoinsRow : OpenClaim := { program := "ytaoondlakhocnaa", sum := "128c1a32498318d36cbbc4ce40c4e3311824abad4aad7d2c94216c9ab890ef39", func := "scorebook/scorebooklaw39.RainJoins", spec := "rainJoins", inPlace := ["slices.overlaps[scorebook/api.Stop]"], unfollowed := true, recurses := true, apart := false }
def RainJoinsSaid : Prop := rainJoinsRow.holds Try.pinned (OpenSpec.ofChange rainJoinsSpec)

/-- ITS FALSE NEIGHBOUR: 'it returns false'. Refute it at one input. -/
def rainJoinsWrong : ChangeSpec := { name := "rainJoins", fn := fun _ => fun
  | [d] => { results := [.lit (.bool false)], args := [d] }
  | _ => none }
def RainJoinsWrongFalsely : Prop := rainJoinsRow.holds Try.pinned (OpenSpec.ofChange rainJoinsWrong)

/-- 'scorebooklaw40.TargetSplits': WHATEVER THE INPUT: true; the input reads as it did. -/
def targetSplitsSpec : ChangeSpec := { name := "targetSplits", fn := fun _ => fun
  | [d1, d2, d3] => { results := [.lit (.bool true)], args := [d1, d2, d3] }
  | _ => none }
def targetSplitsRow : OpenClaim := { program := "ytaoondlakhocnaa", sum := "128c1a32498318d36cbbc4ce40c4e3311824abad4aad7d2c94216c9ab890ef39", func := "scorebook/scorebooklaw40.TargetSplits", spec := "targetSplits", inPlace := ["slices.overlaps[scorebook/api.Stop]"], apart := false }
def TargetSplitsSaid : Prop := targetSplitsRow.holds Try.pinned (OpenSpec.ofChange targetSplitsSpec)

/-- ITS FALSE NEIGHBOUR: 'it returns false'. Refute it at one input. -/
def targetSplitsWrong : ChangeSpec := { name := "targetSplits", fn := fun _ => fun
  | [d1, d2, d3] => { results := [.lit (.bool false)], args := [d1, d2, d3] }
  | _ => none }
def TargetSplitsWrongFalsely : Prop := targetSplitsRow.holds Try.pinned (OpenSpec.ofChange targetSplitsWrong)

/- THE SECOND FORM. 'bulk': how many values and letters a reading holds, each counted each time it is reached (what is shared counts as often as it is met; a slice's spare places count too). A statement '..UptoSaid' is the law's where the arguments, and the package variables that the reading takes, are together of bulk at most 1048576: NARROWER than '..Said'. Prove '..Said' where nothing that the law and all that it calls make is longer than what came in: it says more and counts as full. Else prove '..UptoSaid'. A law counts once. -/
mutual
def uptoBulk {H : Type} : DataW H → Nat
  | .lit (.string bytes) => bytes.length + 1
  | .lit _ => 1
  | .nil => 1
  | .ptr d => uptoBulk d + 1
  | .slice elems spare => uptoBulkAll elems + uptoBulkAll spare + 1
  | .agg parts => uptoBulkAll parts + 1
  | .iface _ d => uptoBulk d + 1
  | .map entries => uptoBulkEntries entries + 1
  | .held _ => 1
def uptoBulkAll {H : Type} : List (DataW H) → Nat
  | [] => 0
  | d :: r => uptoBulk d + uptoBulkAll r
def uptoBulkEntries {H : Type} : List (Lit × DataW H) → Nat
  | [] => 0
  | x :: r => uptoBulkEntry x + uptoBulkEntries r
def uptoBulkEntry {H : Type} : Lit × DataW H → Nat
  | (.string bytes, d) => bytes.length + uptoBulk d + 1
  | (_, d) => uptoBulk d + 1
 end
def uptoSmall : (H : Type) → List (DataW H) → Bool := fun _ ds => decide (uptoBulkAll ds ≤ 1048576)
def OpenSpec.upto (s : _root_.Go.ChangeSpec) : _root_.Go.OpenSpec := { _root_.Go.OpenSpec.ofChange s with cond := some uptoSmall }

/-- 'scorebooktop.TopSplit', WHERE WHAT IT READS IS OF BULK AT MOST 1048576: true; the input reads as it did. -/
def topSplitUptoRow : OpenClaim := { program := "ytaoondlakhocnaa", sum := "128c1a32498318d36cbbc4ce40c4e3311824abad4aad7d2c94216c9ab890ef39", func := "scorebook/scorebooktop.TopSplit", spec := "topSplit", inPlace := ["slices.overlaps[scorebook/api.Stop]"], apart := false, narrowed := true }
def TopSplitUptoSaid : Prop := topSplitUptoRow.holds Try.pinned (OpenSpec.upto topSplitSpec)

/-- 'scorebooklaw40.TargetRevises', WHERE WHAT IT READS IS OF BULK AT MOST 1048576: true; the input reads as it did. -/
def targetRevisesUptoRow : OpenClaim := { program := "ytaoondlakhocnaa", sum := "128c1a32498318d36cbbc4ce40c4e3311824abad4aad7d2c94216c9ab890ef39", func := "scorebook/scorebooklaw40.TargetRevises", spec := "targetRevises", apart := false, narrowed := true }
def TargetRevisesUptoSaid : Prop := targetRevisesUptoRow.holds Try.pinned (OpenSpec.upto targetRevisesSpec)

/-- 'scorebooklaw40.TargetRises', WHERE WHAT IT READS IS OF BULK AT MOST 1048576: true; the input reads as it did. -/
def targetRisesUptoRow : OpenClaim := { program := "ytaoondlakhocnaa", sum := "128c1a32498318d36cbbc4ce40c4e3311824abad4aad7d2c94216c9ab890ef39", func := "scorebook/scorebooklaw40.TargetRises", spec := "targetRises", apart := false, narrowed := true }
def TargetRisesUptoSaid : Prop := targetRisesUptoRow.holds Try.pinned (OpenSpec.upto targetRisesSpec)

/-- 'scorebooklaw40.TargetLevels', WHERE WHAT IT READS IS OF BULK AT MOST 1048576: true; the input reads as it did. -/
def targetLevelsUptoRow : OpenClaim := { program := "ytaoondlakhocnaa", sum := "128c1a32498318d36cbbc4ce40c4e3311824abad4aad7d2c94216c9ab890ef39", func := "scorebook/scorebooklaw40.TargetLevels", spec := "targetLevels", apart := false, narrowed := true }
def TargetLevelsUptoSaid : Prop := targetLevelsUptoRow.holds Try.pinned (OpenSpec.upto targetLevelsSpec)

/-- 'scorebooklaw40.TargetLosses', WHERE WHAT IT READS IS OF BULK AT MOST 1048576: true; the input reads as it did. -/
def targetLossesUptoRow : OpenClaim := { program := "ytaoondlakhocnaa", sum := "128c1a32498318d36cbbc4ce40c4e3311824abad4aad7d2c94216c9ab890ef39", func := "scorebook/scorebooklaw40.TargetLosses", spec := "targetLosses", apart := false, narrowed := true }
def TargetLossesUptoSaid : Prop := targetLossesUptoRow.holds Try.pinned (OpenSpec.upto targetLossesSpec)

/-- 'scorebooklaw40.TargetChases', WHERE WHAT IT READS IS OF BULK AT MOST 1048576: true; the input reads as it did. -/
def targetChasesUptoRow : OpenClaim := { program := "ytaoondlakhocnaa", sum := "128c1a32498318d36cbbc4ce40c4e3311824abad4aad7d2c94216c9ab890ef39", func := "scorebook/scorebooklaw40.TargetChases", spec := "targetChases", apart := false, narrowed := true }
def TargetChasesUptoSaid : Prop := targetChasesUptoRow.holds Try.pinned (OpenSpec.upto targetChasesSpec)

/-- 'scorebooklaw39.RainChecks', WHERE WHAT IT READS IS OF BULK AT MOST 1048576: true; the input reads as it did. -/
def rainChecksUptoRow : OpenClaim := { program := "ytaoondlakhocnaa", sum := "128c1a32498318d36cbbc4ce40c4e3311824abad4aad7d2c94216c9ab890ef39", func := "scorebook/scorebooklaw39.RainChecks", spec := "rainChecks", inPlace := ["slices.overlaps[scorebook/api.Stop]"], unfollowed := true, recurses := true, apart := false, narrowed := true }
def RainChecksUptoSaid : Prop := rainChecksUptoRow.holds Try.pinned (OpenSpec.upto rainChecksSpec)

/-- 'scorebooklaw39.RainTakes', WHERE WHAT IT READS IS OF BULK AT MOST 1048576: true; the input reads as it did. -/
def rainTakesUptoRow : OpenClaim := { program := "ytaoondlakhocnaa", sum := "128c1a32498318d36cbbc4ce40c4e3311824abad4aad7d2c94216c9ab890ef39", func := "scorebook/scorebooklaw39.RainTakes", spec := "rainTakes", inPlace := ["slices.overlaps[scorebook/api.Stop]"], unfollowed := true, recurses := true, apart := false, narrowed := true }
def RainTakesUptoSaid : Prop := rainTakesUptoRow.holds Try.pinned (OpenSpec.upto rainTakesSpec)

/-- 'scorebooklaw39.RainBounds', WHERE WHAT IT READS IS OF BULK AT MOST 1048576: true; the input reads as it did. -/
def rainBoundsUptoRow : OpenClaim := { program := "ytaoondlakhocnaa", sum := "128c1a32498318d36cbbc4ce40c4e3311824abad4aad7d2c94216c9ab890ef39", func := "scorebook/scorebooklaw39.RainBounds", spec := "rainBounds", inPlace := ["slices.overlaps[scorebook/api.Stop]"], unfollowed := true, recurses := true, apart := false, narrowed := true }
def RainBoundsUptoSaid : Prop := rainBoundsUptoRow.holds Try.pinned (OpenSpec.upto rainBoundsSpec)

/-- 'scorebooklaw39.RainSplits', WHERE WHAT IT READS IS OF BULK AT MOST 1048576: true; the input reads as it did. -/
def rainSplitsUptoRow : OpenClaim := { program := "ytaoondlakhocnaa", sum := "128c1a32498318d36cbbc4ce40c4e3311824abad4aad7d2c94216c9ab890ef39", func := "scorebook/scorebooklaw39.RainSplits", spec := "rainSplits", inPlace := ["slices.overlaps[scorebook/api.Stop]"], unfollowed := true, recurses := true, apart := false, narrowed := true }
def RainSplitsUptoSaid : Prop := rainSplitsUptoRow.holds Try.pinned (OpenSpec.upto rainSplitsSpec)

/-- 'scorebooklaw39.RainMore', WHERE WHAT IT READS IS OF BULK AT MOST 1048576: true; the input reads as it did. -/
def rainMoreUptoRow : OpenClaim := { program := "ytaoondlakhocnaa", sum := "128c1a32498318d36cbbc4ce40c4e3311824abad4aad7d2c94216c9ab890ef39", func := "scorebook/scorebooklaw39.RainMore", spec := "rainMore", inPlace := ["slices.overlaps[scorebook/api.Stop]"], unfollowed := true, recurses := true, apart := false, narrowed := true }
def RainMoreUptoSaid : Prop := rainMoreUptoRow.holds Try.pinned (OpenSpec.upto rainMoreSpec)

/-- 'scorebooklaw39.RainJoins', WHERE WHAT IT READS IS OF BULK AT MOST 1048576: true; the input reads as it did. -/
def rainJoinsUptoRow : OpenClaim := { program := "ytaoondlakhocnaa", sum := "128c1a32498318d36cbbc4ce40c4e3311824abad4aad7d2c94216c9ab890ef39", func := "scorebook/scorebooklaw39.RainJoins", spec := "rainJoins", inPlace := ["slices.overlaps[scorebook/api.Stop]"], unfollowed := true, recurses := true, apart := false, narrowed := true }
def RainJoinsUptoSaid : Prop := rainJoinsUptoRow.holds Try.pinned (OpenSpec.upto rainJoinsSpec)

/-- 'scorebooklaw40.TargetSplits', WHERE WHAT IT READS IS OF BULK AT MOST 1048576: true; the input reads as it did. -/
def targetSplitsUptoRow : OpenClaim := { program := "ytaoondlakhocnaa", sum := "128c1a32498318d36cbbc4ce40c4e3311824abad4aad7d2c94216c9ab890ef39", func := "scorebook/scorebooklaw40.TargetSplits", spec := "targetSplits", inPlace := ["slices.overlaps[scorebook/api.Stop]"], apart := false, narrowed := true }
def TargetSplitsUptoSaid : Prop := targetSplitsUptoRow.holds Try.pinned (OpenSpec.upto targetSplitsSpec)

end Rows
end Go.Proofs.Ytaoondlakhocnaa
