/-
  No cell of these rows narrows 'for every input' (looked for: loops, veiled, ifaces, maps, wideKeys, modest, calm, conditions, laid).
  DERIVED. THE GIVEN ROWS OF THIS SEAT. 9 by the template 'for every input the law returns true; each argument reads behind the call as it read before'; 0 by the template 'total and deterministic' (their statements: YtdicnojnkbmdlaaTotals.lean).
  GIVEN WITH THE SEED: the statements are not yours to turn. If you find one false, say at which input.
  Laid BY PROGRAM, IN A SANDBOX (cutbox-rows.mjs): the forced cells as the released guide's own fill.sh prints them over the translation 98435a8ccd327e36… (all of the seat's roots in one cut). By AI agents, Wed Nov 11 2026. No macro, syntax, notation, axiom, sorry.
-/
import Derived.Test.YtdicnojnkbmdlaaChecked
import GoSem.Claim
import GoSem.ClaimJoined
import GoSem.ClaimMapViews
import Derived.JoinedTies
import Derived.KernelRfl
namespace Go.Proofs.Ytdicnojnkbmdlaa
/- THE CELL 'sum', in the pinned program and in every row, IS THE sha256 OF THE DUMP (.gsa) THAT YtdicnojnkbmdlaaProg.lean LOADS. Nothing in Lean hashes anything: it is a label: what it is worth is what the hold of that sum in a sandbox is worth. -/
noncomputable def Try.pinned : Pinned := { name := "ytdicnojnkbmdlaa", sum := "98435a8ccd327e3661f25c11c3cb9d488a14101bb9e8a569a9bc42c871f036e1", checked := Try.checked }
namespace Rows
def none {H : Type} : Left H := { results := [], args := [] }

/-- 'scorebooklaw52.FlowMax': WHATEVER THE INPUT: true; the input reads as it did. -/
def flowMaxSpec : ChangeSpec := { name := "flowMax", fn := fun _ => fun
  | [d] => { results := [.lit (.bool true)], args := [d] }
  | _ => none }
def flowMaxRow : OpenClaim := { program := "ytdicnojnkbmdlaa", sum := "98435a8ccd327e3661f25c11c3cb9d488a14101bb9e8a569a9bc42c871f036e1", func := "scorebook/scorebooklaw52.FlowMax", spec := "flowMax", apart := false }
def FlowMaxSaid : Prop := flowMaxRow.holds Try.pinned (OpenSpec.ofChange flowMaxSpec)

/-- ITS FALSE NEIGHBOUR: 'it returns false'. Refute it at one input. -/
def flowMaxWrong : ChangeSpec := { name := "flowMax", fn := fun _ => fun
  | [d] => { results := [.lit (.bool false)], args := [d] }
  | _ => none }
def FlowMaxWrongFalsely : Prop := flowMaxRow.holds Try.pinned (OpenSpec.ofChange flowMaxWrong)

/-- 'scorebooklaw52.FlowChecks': WHATEVER THE INPUT: true; the input reads as it did. -/
def flowChecksSpec : ChangeSpec := { name := "flowChecks", fn := fun _ => fun
  | [d1, d2, d3] => { results := [.lit (.bool true)], args := [d1, d2, d3] }
  | _ => none }
def flowChecksRow : OpenClaim := { program := "ytdicnojnkbmdlaa", sum := "98435a8ccd327e3661f25c11c3cb9d488a14101bb9e8a569a9bc42c871f036e1", func := "scorebook/scorebooklaw52.FlowChecks", spec := "flowChecks", apart := false }
def FlowChecksSaid : Prop := flowChecksRow.holds Try.pinned (OpenSpec.ofChange flowChecksSpec)

/-- ITS FALSE NEIGHBOUR: 'it returns false'. Refute it at one input. -/
def flowChecksWrong : ChangeSpec := { name := "flowChecks", fn := fun _ => fun
  | [d1, d2, d3] => { results := [.lit (.bool false)], args := [d1, d2, d3] }
  | _ => none }
def FlowChecksWrongFalsely : Prop := flowChecksRow.holds Try.pinned (OpenSpec.ofChange flowChecksWrong)

/-- 'scorebooklaw52.FlowProves': WHATEVER THE INPUT: true; the input reads as it did. -/
def flowProvesSpec : ChangeSpec := { name := "flowProves", fn := fun _ => fun
  | [d1, d2, d3] => { results := [.lit (.bool true)], args := [d1, d2, d3] }
  | _ => none }
def flowProvesRow : OpenClaim := { program := "ytdicnojnkbmdlaa", sum := "98435a8ccd327e3661f25c11c3cb9d488a14101bb9e8a569a9bc42c871f036e1", func := "scorebook/scorebooklaw52.FlowProves", spec := "flowProves", apart := false }
def FlowProvesSaid : Prop := flowProvesRow.holds Try.pinned (OpenSpec.ofChange flowProvesSpec)

/-- ITS FALSE NEIGHBOUR: 'it returns false'. Refute it at one input. -/
def flowProvesWrong : ChangeSpec := { name := "flowProves", fn := fun _ => fun
  | [d1, d2, d3] => { results := [.lit (.bool false)], args := [d1, d2, d3] }
  | _ => none }
def FlowProvesWrongFalsely : Prop := flowProvesRow.holds Try.pinned (OpenSpec.ofChange flowProvesWrong)

/-- 'scorebooktop.TopRace': WHATEVER THE INPUT: true; the input reads as it did. -/
def topRaceSpec : ChangeSpec := { name := "topRace", fn := fun _ => fun
  | [d1, d2] => { results := [.lit (.bool true)], args := [d1, d2] }
  | _ => none }
def topRaceRow : OpenClaim := { program := "ytdicnojnkbmdlaa", sum := "98435a8ccd327e3661f25c11c3cb9d488a14101bb9e8a569a9bc42c871f036e1", func := "scorebook/scorebooktop.TopRace", spec := "topRace", unfollowed := true, recurses := true, apart := false }
def TopRaceSaid : Prop := topRaceRow.holds Try.pinned (OpenSpec.ofChange topRaceSpec)

/-- ITS FALSE NEIGHBOUR: 'it returns false'. Refute it at one input. -/
def topRaceWrong : ChangeSpec := { name := "topRace", fn := fun _ => fun
  | [d1, d2] => { results := [.lit (.bool false)], args := [d1, d2] }
  | _ => none }
def TopRaceWrongFalsely : Prop := topRaceRow.holds Try.pinned (OpenSpec.ofChange topRaceWrong)

/-- 'scorebooklaw53.RaceVerdicts': WHATEVER THE INPUT: true; the input reads as it did. -/
def raceVerdictsSpec : ChangeSpec := { name := "raceVerdicts", fn := fun _ => fun
  | [d1, d2] => { results := [.lit (.bool true)], args := [d1, d2] }
  | _ => none }
def raceVerdictsRow : OpenClaim := { program := "ytdicnojnkbmdlaa", sum := "98435a8ccd327e3661f25c11c3cb9d488a14101bb9e8a569a9bc42c871f036e1", func := "scorebook/scorebooklaw53.RaceVerdicts", spec := "raceVerdicts", unfollowed := true, recurses := true, apart := false }
def RaceVerdictsSaid : Prop := raceVerdictsRow.holds Try.pinned (OpenSpec.ofChange raceVerdictsSpec)

/-- ITS FALSE NEIGHBOUR: 'it returns false'. Refute it at one input. -/
def raceVerdictsWrong : ChangeSpec := { name := "raceVerdicts", fn := fun _ => fun
  | [d1, d2] => { results := [.lit (.bool false)], args := [d1, d2] }
  | _ => none }
def RaceVerdictsWrongFalsely : Prop := raceVerdictsRow.holds Try.pinned (OpenSpec.ofChange raceVerdictsWrong)

/-- 'scorebooklaw53.RaceAccepts': WHATEVER THE INPUT: true; the input reads as it did. -/
def raceAcceptsSpec : ChangeSpec := { name := "raceAccepts", fn := fun _ => fun
  | [d1, d2, d3] => { results := [.lit (.bool true)], args := [d1, d2, d3] }
  | _ => none }
def raceAcceptsRow : OpenClaim := { program := "ytdicnojnkbmdlaa", sum := "98435a8ccd327e3661f25c11c3cb9d488a14101bb9e8a569a9bc42c871f036e1", func := "scorebook/scorebooklaw53.RaceAccepts", spec := "raceAccepts", unfollowed := true, recurses := true, apart := false }
def RaceAcceptsSaid : Prop := raceAcceptsRow.holds Try.pinned (OpenSpec.ofChange raceAcceptsSpec)

/-- ITS FALSE NEIGHBOUR: 'it returns false'. Refute it at one input. -/
def raceAcceptsWrong : ChangeSpec := { name := "raceAccepts", fn := fun _ => fun
  | [d1, d2, d3] => { results := [.lit (.bool false)], args := [d1, d2, d3] }
  | _ => none }
def RaceAcceptsWrongFalsely : Prop := raceAcceptsRow.holds Try.pinned (OpenSpec.ofChange raceAcceptsWrong)

/-- 'scorebooklaw53.RaceStays': WHATEVER THE INPUT: true; the input reads as it did. -/
def raceStaysSpec : ChangeSpec := { name := "raceStays", fn := fun _ => fun
  | [d1, d2, d3] => { results := [.lit (.bool true)], args := [d1, d2, d3] }
  | _ => none }
def raceStaysRow : OpenClaim := { program := "ytdicnojnkbmdlaa", sum := "98435a8ccd327e3661f25c11c3cb9d488a14101bb9e8a569a9bc42c871f036e1", func := "scorebook/scorebooklaw53.RaceStays", spec := "raceStays", unfollowed := true, recurses := true, apart := false }
def RaceStaysSaid : Prop := raceStaysRow.holds Try.pinned (OpenSpec.ofChange raceStaysSpec)

/-- ITS FALSE NEIGHBOUR: 'it returns false'. Refute it at one input. -/
def raceStaysWrong : ChangeSpec := { name := "raceStays", fn := fun _ => fun
  | [d1, d2, d3] => { results := [.lit (.bool false)], args := [d1, d2, d3] }
  | _ => none }
def RaceStaysWrongFalsely : Prop := raceStaysRow.holds Try.pinned (OpenSpec.ofChange raceStaysWrong)

/-- 'scorebooklaw53.RaceChecks': WHATEVER THE INPUT: true; the input reads as it did. -/
def raceChecksSpec : ChangeSpec := { name := "raceChecks", fn := fun _ => fun
  | [d1, d2, d3] => { results := [.lit (.bool true)], args := [d1, d2, d3] }
  | _ => none }
def raceChecksRow : OpenClaim := { program := "ytdicnojnkbmdlaa", sum := "98435a8ccd327e3661f25c11c3cb9d488a14101bb9e8a569a9bc42c871f036e1", func := "scorebook/scorebooklaw53.RaceChecks", spec := "raceChecks", unfollowed := true, recurses := true, apart := false }
def RaceChecksSaid : Prop := raceChecksRow.holds Try.pinned (OpenSpec.ofChange raceChecksSpec)

/-- ITS FALSE NEIGHBOUR: 'it returns false'. Refute it at one input. -/
def raceChecksWrong : ChangeSpec := { name := "raceChecks", fn := fun _ => fun
  | [d1, d2, d3] => { results := [.lit (.bool false)], args := [d1, d2, d3] }
  | _ => none }
def RaceChecksWrongFalsely : Prop := raceChecksRow.holds Try.pinned (OpenSpec.ofChange raceChecksWrong)

/-- 'scorebooklaw53.RaceProves': WHATEVER THE INPUT: true; the input reads as it did. -/
def raceProvesSpec : ChangeSpec := { name := "raceProves", fn := fun _ => fun
  | [d1, d2, d3] => { results := [.lit (.bool true)], args := [d1, d2, d3] }
  | _ => none }
def raceProvesRow : OpenClaim := { program := "ytdicnojnkbmdlaa", sum := "98435a8ccd327e3661f25c11c3cb9d488a14101bb9e8a569a9bc42c871f036e1", func := "scorebook/scorebooklaw53.RaceProves", spec := "raceProves", unfollowed := true, recurses := true, apart := false }
def RaceProvesSaid : Prop := raceProvesRow.holds Try.pinned (OpenSpec.ofChange raceProvesSpec)

/-- ITS FALSE NEIGHBOUR: 'it returns false'. Refute it at one input. -/
def raceProvesWrong : ChangeSpec := { name := "raceProves", fn := fun _ => fun
  | [d1, d2, d3] => { results := [.lit (.bool false)], args := [d1, d2, d3] }
  | _ => none }
def RaceProvesWrongFalsely : Prop := raceProvesRow.holds Try.pinned (OpenSpec.ofChange raceProvesWrong)

/- THE SECOND FORM. 'bulk': how many values and letters a reading holds, each counted each time it is reached (what is shared counts as often as it is met; a slice's spare places count too). A statement '..UptoSaid' is the law's where the arguments, and the package variables that the reading takes, are together of bulk at most 1048576: NARROWER than '..Said'. Prove '..Said' where nothing that the law and all that it calls make is longer than what came in: it says more and counts as full. Else prove '..UptoSaid'. A law counts once. -/
mutual
def uptoBulk {H : Type} : DataW H → Nat
  | .lit (.string bytes) => bytes.length + 1
  | .lit _ => 1
  | .nil => 1
  | .ptr d => uptoBulk d + 1
  | .slice elems spare => uptoBulkAll elems + uptoBulkAll spare + 1
  | .agg parts => uptoBulkAll parts + 1
  | .iface _ d => uptoBulk d + 1
  | .map entries => uptoBulkEntries entries + 1
  | .held _ => 1
def uptoBulkAll {H : Type} : List (DataW H) → Nat
  | [] => 0
  | d :: r => uptoBulk d + uptoBulkAll r
def uptoBulkEntries {H : Type} : List (Lit × DataW H) → Nat
  | [] => 0
  | x :: r => uptoBulkEntry x + uptoBulkEntries r
def uptoBulkEntry {H : Type} : Lit × DataW H → Nat
  | (.string bytes, d) => bytes.length + uptoBulk d + 1
  | (_, d) => uptoBulk d + 1
 end
def uptoSmall : (H : Type) → List (DataW H) → Bool := fun _ ds => decide (uptoBulkAll ds ≤ 1048576)
def OpenSpec.upto (s : _root_.Go.ChangeSpec) : _root_.Go.OpenSpec := { _root_.Go.OpenSpec.ofChange s with cond := some uptoSmall }

/-- 'scorebooklaw52.FlowMax', WHERE WHAT IT READS IS OF BULK AT MOST 1048576: true; the input reads as it did. -/
def flowMaxUptoRow : OpenClaim := { program := "ytdicnojnkbmdlaa", sum := "98435a8ccd327e3661f25c11c3cb9d488a14101bb9e8a569a9bc42c871f036e1", func := "scorebook/scorebooklaw52.FlowMax", spec := "flowMax", apart := false, narrowed := true }
def FlowMaxUptoSaid : Prop := flowMaxUptoRow.holds Try.pinned (OpenSpec.upto flowMaxSpec)

/-- 'scorebooklaw52.FlowChecks', WHERE WHAT IT READS IS OF BULK AT MOST 1048576: true; the input reads as it did. -/
def flowChecksUptoRow : OpenClaim := { program := "ytdicnojnkbmdlaa", sum := "98435a8ccd327e3661f25c11c3cb9d488a14101bb9e8a569a9bc42c871f036e1", func := "scorebook/scorebooklaw52.FlowChecks", spec := "flowChecks", apart := false, narrowed := true }
def FlowChecksUptoSaid : Prop := flowChecksUptoRow.holds Try.pinned (OpenSpec.upto flowChecksSpec)

/-- 'scorebooklaw52.FlowProves', WHERE WHAT IT READS IS OF BULK AT MOST 1048576: true; the input reads as it did. -/
def flowProvesUptoRow : OpenClaim := { program := "ytdicnojnkbmdlaa", sum := "98435a8ccd327e3661f25c11c3cb9d488a14101bb9e8a569a9bc42c871f036e1", func := "scorebook/scorebooklaw52.FlowProves", spec := "flowProves", apart := false, narrowed := true }
def FlowProvesUptoSaid : Prop := flowProvesUptoRow.holds Try.pinned (OpenSpec.upto flowProvesSpec)

/-- 'scorebooktop.TopRace', WHERE WHAT IT READS IS OF BULK AT MOST 1048576: true; the input reads as it did. -/
def topRaceUptoRow : OpenClaim := { program := "ytdicnojnkbmdlaa", sum := "98435a8ccd327e3661f25c11c3cb9d488a14101bb9e8a569a9bc42c871f036e1", func := "scorebook/scorebooktop.TopRace", spec := "topRace", unfollowed := true, recurses := true, apart := false, narrowed := true }
def TopRaceUptoSaid : Prop := topRaceUptoRow.holds Try.pinned (OpenSpec.upto topRaceSpec)

/-- 'scorebooklaw53.RaceVerdicts', WHERE WHAT IT READS IS OF BULK AT MOST 1048576: true; the input reads as it did. -/
def raceVerdictsUptoRow : OpenClaim := { program := "ytdicnojnkbmdlaa", sum := "98435a8ccd327e3661f25c11c3cb9d488a14101bb9e8a569a9bc42c871f036e1", func := "scorebook/scorebooklaw53.RaceVerdicts", spec := "raceVerdicts", unfollowed := true, recurses := true, apart := false, narrowed := true }
def RaceVerdictsUptoSaid : Prop := raceVerdictsUptoRow.holds Try.pinned (OpenSpec.upto raceVerdictsSpec)

/-- 'scorebooklaw53.RaceAccepts', WHERE WHAT IT READS IS OF BULK AT MOST 1048576: true; the input reads as it did. -/
def raceAcceptsUptoRow : OpenClaim := { program := "ytdicnojnkbmdlaa", sum := "98435a8ccd327e3661f25c11c3cb9d488a14101bb9e8a569a9bc42c871f036e1", func := "scorebook/scorebooklaw53.RaceAccepts", spec := "raceAccepts", unfollowed := true, recurses := true, apart := false, narrowed := true }
def RaceAcceptsUptoSaid : Prop := raceAcceptsUptoRow.holds Try.pinned (OpenSpec.upto raceAcceptsSpec)

/-- 'scorebooklaw53.RaceStays', WHERE WHAT IT READS IS OF BULK AT MOST 1048576: true; the input reads as it did. -/
def raceStaysUptoRow : OpenClaim := { program := "ytdicnojnkbmdlaa", sum := "98435a8ccd327e3661f25c11c3cb9d488a14101bb9e8a569a9bc42c871f036e1", func := "scorebook/scorebooklaw53.RaceStays", spec := "raceStays", unfollowed := true, recurses := true, apart := false, narrowed := true }
def RaceStaysUptoSaid : Prop := raceStaysUptoRow.holds Try.pinned (OpenSpec.upto raceStaysSpec)

/-- 'scorebooklaw53.RaceChecks', WHERE WHAT IT READS IS OF BULK AT MOST 1048576: true; the input reads as it did. -/
def raceChecksUptoRow : OpenClaim := { program := "ytdicnojnkbmdlaa", sum := "98435a8ccd327e3661f25c11c3cb9d488a14101bb9e8a569a9bc42c871f036e1", func := "scorebook/scorebooklaw53.RaceChecks", spec := "raceChecks", unfollowed := true, recurses := true, apart := false, narrowed := true }
def RaceChecksUptoSaid : Prop := raceChecksUptoRow.holds Try.pinned (OpenSpec.upto raceChecksSpec)

/-- 'scorebooklaw53.RaceProves', WHERE WHAT IT READS IS OF BULK AT MOST 1048576: true; the input reads as it did. -/
def raceProvesUptoRow : OpenClaim := { program := "ytdicnojnkbmdlaa", sum := "98435a8ccd327e3661f25c11c3cb9d488a14101bb9e8a569a9bc42c871f036e1", func := "scorebook/scorebooklaw53.RaceProves", spec := "raceProves", unfollowed := true, recurses := true, apart := false, narrowed := true }
def RaceProvesUptoSaid : Prop := raceProvesUptoRow.holds Try.pinned (OpenSpec.upto raceProvesSpec)

end Rows
end Go.Proofs.Ytdicnojnkbmdlaa
