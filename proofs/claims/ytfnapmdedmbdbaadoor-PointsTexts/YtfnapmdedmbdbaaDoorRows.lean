/-
  NARROWER THAN 'FOR EVERY INPUT', by the rows' own cells (each row's printed sentence says how): PointsCompares: laid · PointsOrders: laid · PointsAny: laid · PointsRates: laid · PointsTables: laid · PointsSums: laid · PointsTexts: laid.
  DERIVED. THE GIVEN ROWS OF THIS SEAT. 7 by the template 'for every input the law returns true; each argument reads behind the call as it read before'; 0 by the template 'total and deterministic' (their statements: YtfnapmdedmbdbaaDoorTotals.lean).
  GIVEN WITH THE SEED: the statements are not yours to turn. If you find one false, say at which input.
  Laid BY PROGRAM, IN A SANDBOX (cutbox-rows.mjs): the forced cells as the released guide's own fill.sh prints them over the translation e7b7a14da23f5cb3… (all of the seat's roots in one cut). By AI agents, Wed Nov 11 2026. No macro, syntax, notation, axiom, sorry.
-/
import Derived.Test.YtfnapmdedmbdbaaDoorChecked
import GoSem.Claim
import GoSem.ClaimJoined
import GoSem.ClaimMapViews
import Derived.JoinedTies
import Derived.KernelRfl
namespace Go.Proofs.YtfnapmdedmbdbaaDoor
/- THE CELL 'sum', in the pinned program and in every row, IS THE sha256 OF THE DUMP (.gsa) THAT YtfnapmdedmbdbaaDoorProg.lean LOADS. Nothing in Lean hashes anything: it is a label: what it is worth is what the hold of that sum in a sandbox is worth. -/
noncomputable def Tryd.pinned : Pinned := { name := "ytfnapmdedmbdbaadoor", sum := "e7b7a14da23f5cb3935c9980b3a9ec1208c355d90fcd6468633eb2c5e2db1ef3", checked := Tryd.checked }
namespace Rows
def none {H : Type} : Left H := { results := [], args := [] }

/- WHAT THE LISTED PACKAGE-LEVEL VARIABLES READ AS WHEN THE CALL BEGINS. Each datum BY PROGRAM (the guide's laid-datum.mjs) off the statement by which the dump's own 'gosem.cut.vars' lays the variable. In a bare row this is a premise. The card (YtfnapmdedmbdbaaDoorCards.lean) ties it to the program's text. -/
def laid_math_bits_deBruijn32tab {H : Type} : DataW H := .agg [.lit (.int .u8 0), .lit (.int .u8 1), .lit (.int .u8 28), .lit (.int .u8 2), .lit (.int .u8 29), .lit (.int .u8 14), .lit (.int .u8 24), .lit (.int .u8 3), .lit (.int .u8 30), .lit (.int .u8 22), .lit (.int .u8 20), .lit (.int .u8 15), .lit (.int .u8 25), .lit (.int .u8 17), .lit (.int .u8 4), .lit (.int .u8 8), .lit (.int .u8 31), .lit (.int .u8 27), .lit (.int .u8 13), .lit (.int .u8 23), .lit (.int .u8 21), .lit (.int .u8 19), .lit (.int .u8 16), .lit (.int .u8 7), .lit (.int .u8 26), .lit (.int .u8 12), .lit (.int .u8 18), .lit (.int .u8 6), .lit (.int .u8 11), .lit (.int .u8 5), .lit (.int .u8 10), .lit (.int .u8 9)]
def laid_math_bits_deBruijn64tab {H : Type} : DataW H := .agg [.lit (.int .u8 0), .lit (.int .u8 1), .lit (.int .u8 56), .lit (.int .u8 2), .lit (.int .u8 57), .lit (.int .u8 49), .lit (.int .u8 28), .lit (.int .u8 3), .lit (.int .u8 61), .lit (.int .u8 58), .lit (.int .u8 42), .lit (.int .u8 50), .lit (.int .u8 38), .lit (.int .u8 29), .lit (.int .u8 17), .lit (.int .u8 4), .lit (.int .u8 62), .lit (.int .u8 47), .lit (.int .u8 59), .lit (.int .u8 36), .lit (.int .u8 45), .lit (.int .u8 43), .lit (.int .u8 51), .lit (.int .u8 22), .lit (.int .u8 53), .lit (.int .u8 39), .lit (.int .u8 33), .lit (.int .u8 30), .lit (.int .u8 24), .lit (.int .u8 18), .lit (.int .u8 12), .lit (.int .u8 5), .lit (.int .u8 63), .lit (.int .u8 55), .lit (.int .u8 48), .lit (.int .u8 27), .lit (.int .u8 60), .lit (.int .u8 41), .lit (.int .u8 37), .lit (.int .u8 16), .lit (.int .u8 46), .lit (.int .u8 35), .lit (.int .u8 44), .lit (.int .u8 21), .lit (.int .u8 52), .lit (.int .u8 32), .lit (.int .u8 23), .lit (.int .u8 11), .lit (.int .u8 54), .lit (.int .u8 26), .lit (.int .u8 40), .lit (.int .u8 15), .lit (.int .u8 34), .lit (.int .u8 20), .lit (.int .u8 31), .lit (.int .u8 10), .lit (.int .u8 25), .lit (.int .u8 14), .lit (.int .u8 19), .lit (.int .u8 9), .lit (.int .u8 13), .lit (.int .u8 8), .lit (.int .u8 7), .lit (.int .u8 6)]
def laid_internal_strconv_uint64pow10 {H : Type} : DataW H := .agg [.lit (.int .u64 1), .lit (.int .u64 10), .lit (.int .u64 100), .lit (.int .u64 1000), .lit (.int .u64 10000), .lit (.int .u64 100000), .lit (.int .u64 1000000), .lit (.int .u64 10000000), .lit (.int .u64 100000000), .lit (.int .u64 1000000000), .lit (.int .u64 10000000000), .lit (.int .u64 100000000000), .lit (.int .u64 1000000000000), .lit (.int .u64 10000000000000), .lit (.int .u64 100000000000000), .lit (.int .u64 1000000000000000), .lit (.int .u64 10000000000000000), .lit (.int .u64 100000000000000000), .lit (.int .u64 1000000000000000000), .lit (.int .u64 10000000000000000000)]

/-- 'scorebooklaw51.PointsCompares': WHATEVER THE INPUT: true; the input reads as it did. -/
def pointsComparesSpec : ChangeSpec := { name := "pointsCompares", fn := fun _ => fun
  | [d1, d2] => { results := [.lit (.bool true)], args := [d1, d2] }
  | _ => none }
def pointsComparesRow : OpenClaim := { program := "ytfnapmdedmbdbaadoor", sum := "e7b7a14da23f5cb3935c9980b3a9ec1208c355d90fcd6468633eb2c5e2db1ef3", func := "scorebook/scorebooklaw51.PointsCompares", spec := "pointsCompares", inPlace := ["math/bits.Add64", "internal/abi.NoEscape", "internal/bytealg.MakeNoZero"], unfollowed := true, recurses := true, named := ["internal/strconv.uint64pow10", "math/bits.deBruijn32tab", "math/bits.deBruijn64tab"], apart := false, laid := [("math/bits.deBruijn32tab", laid_math_bits_deBruijn32tab), ("math/bits.deBruijn64tab", laid_math_bits_deBruijn64tab), ("internal/strconv.uint64pow10", laid_internal_strconv_uint64pow10)] }
def PointsComparesSaid : Prop := pointsComparesRow.holds Tryd.pinned (OpenSpec.ofChange pointsComparesSpec)

/-- ITS FALSE NEIGHBOUR: 'it returns false'. Refute it at one input. -/
def pointsComparesWrong : ChangeSpec := { name := "pointsCompares", fn := fun _ => fun
  | [d1, d2] => { results := [.lit (.bool false)], args := [d1, d2] }
  | _ => none }
def PointsComparesWrongFalsely : Prop := pointsComparesRow.holds Tryd.pinned (OpenSpec.ofChange pointsComparesWrong)

/-- 'scorebooklaw51.PointsOrders': WHATEVER THE INPUT: true; the input reads as it did. -/
def pointsOrdersSpec : ChangeSpec := { name := "pointsOrders", fn := fun _ => fun
  | [d1, d2, d3] => { results := [.lit (.bool true)], args := [d1, d2, d3] }
  | _ => none }
def pointsOrdersRow : OpenClaim := { program := "ytfnapmdedmbdbaadoor", sum := "e7b7a14da23f5cb3935c9980b3a9ec1208c355d90fcd6468633eb2c5e2db1ef3", func := "scorebook/scorebooklaw51.PointsOrders", spec := "pointsOrders", inPlace := ["math/bits.Add64", "internal/abi.NoEscape", "internal/bytealg.MakeNoZero"], unfollowed := true, recurses := true, named := ["internal/strconv.uint64pow10", "math/bits.deBruijn32tab", "math/bits.deBruijn64tab"], apart := false, laid := [("math/bits.deBruijn32tab", laid_math_bits_deBruijn32tab), ("math/bits.deBruijn64tab", laid_math_bits_deBruijn64tab), ("internal/strconv.uint64pow10", laid_internal_strconv_uint64pow10)] }
def PointsOrdersSaid : Prop := pointsOrdersRow.holds Tryd.pinned (OpenSpec.ofChange pointsOrdersSpec)

/-- ITS FALSE NEIGHBOUR: 'it returns false'. Refute it at one input. -/
def pointsOrdersWrong : ChangeSpec := { name := "pointsOrders", fn := fun _ => fun
  | [d1, d2, d3] => { results := [.lit (.bool false)], args := [d1, d2, d3] }
  | _ => none }
def PointsOrdersWrongFalsely : Prop := pointsOrdersRow.holds Tryd.pinned (OpenSpec.ofChange pointsOrdersWrong)

/-- 'scorebooklaw51.PointsAny': WHATEVER THE INPUT: true; the input reads as it did. -/
def pointsAnySpec : ChangeSpec := { name := "pointsAny", fn := fun _ => fun
  | [d1, d2, d3] => { results := [.lit (.bool true)], args := [d1, d2, d3] }
  | _ => none }
def pointsAnyRow : OpenClaim := { program := "ytfnapmdedmbdbaadoor", sum := "e7b7a14da23f5cb3935c9980b3a9ec1208c355d90fcd6468633eb2c5e2db1ef3", func := "scorebook/scorebooklaw51.PointsAny", spec := "pointsAny", inPlace := ["math/bits.Add64", "internal/abi.NoEscape", "internal/bytealg.MakeNoZero"], unfollowed := true, recurses := true, named := ["internal/strconv.uint64pow10", "math/bits.deBruijn32tab", "math/bits.deBruijn64tab"], apart := false, laid := [("math/bits.deBruijn32tab", laid_math_bits_deBruijn32tab), ("math/bits.deBruijn64tab", laid_math_bits_deBruijn64tab), ("internal/strconv.uint64pow10", laid_internal_strconv_uint64pow10)] }
def PointsAnySaid : Prop := pointsAnyRow.holds Tryd.pinned (OpenSpec.ofChange pointsAnySpec)

/-- ITS FALSE NEIGHBOUR: 'it returns false'. Refute it at one input. -/
def pointsAnyWrong : ChangeSpec := { name := "pointsAny", fn := fun _ => fun
  | [d1, d2, d3] => { results := [.lit (.bool false)], args := [d1, d2, d3] }
  | _ => none }
def PointsAnyWrongFalsely : Prop := pointsAnyRow.holds Tryd.pinned (OpenSpec.ofChange pointsAnyWrong)

/-- 'scorebooklaw51.PointsRates': WHATEVER THE INPUT: true; the input reads as it did. -/
def pointsRatesSpec : ChangeSpec := { name := "pointsRates", fn := fun _ => fun
  | [d1, d2] => { results := [.lit (.bool true)], args := [d1, d2] }
  | _ => none }
def pointsRatesRow : OpenClaim := { program := "ytfnapmdedmbdbaadoor", sum := "e7b7a14da23f5cb3935c9980b3a9ec1208c355d90fcd6468633eb2c5e2db1ef3", func := "scorebook/scorebooklaw51.PointsRates", spec := "pointsRates", inPlace := ["math/bits.Add64", "internal/abi.NoEscape", "internal/bytealg.MakeNoZero"], unfollowed := true, recurses := true, named := ["internal/strconv.uint64pow10", "math/bits.deBruijn32tab", "math/bits.deBruijn64tab"], apart := false, laid := [("math/bits.deBruijn32tab", laid_math_bits_deBruijn32tab), ("math/bits.deBruijn64tab", laid_math_bits_deBruijn64tab), ("internal/strconv.uint64pow10", laid_internal_strconv_uint64pow10)] }
def PointsRatesSaid : Prop := pointsRatesRow.holds Tryd.pinned (OpenSpec.ofChange pointsRatesSpec)

/-- ITS FALSE NEIGHBOUR: 'it returns false'. Refute it at one input. -/
def pointsRatesWrong : ChangeSpec := { name := "pointsRates", fn := fun _ => fun
  | [d1, d2] => { results := [.lit (.bool false)], args := [d1, d2] }
  | _ => none }
def PointsRatesWrongFalsely : Prop := pointsRatesRow.holds Tryd.pinned (OpenSpec.ofChange pointsRatesWrong)

/-- 'scorebooklaw51.PointsTables': WHATEVER THE INPUT: true; the input reads as it did. -/
def pointsTablesSpec : ChangeSpec := { name := "pointsTables", fn := fun _ => fun
  | [d1, d2] => { results := [.lit (.bool true)], args := [d1, d2] }
  | _ => none }
def pointsTablesRow : OpenClaim := { program := "ytfnapmdedmbdbaadoor", sum := "e7b7a14da23f5cb3935c9980b3a9ec1208c355d90fcd6468633eb2c5e2db1ef3", func := "scorebook/scorebooklaw51.PointsTables", spec := "pointsTables", inPlace := ["math/bits.Add64", "internal/abi.NoEscape", "internal/bytealg.MakeNoZero"], unfollowed := true, recurses := true, named := ["internal/strconv.uint64pow10", "math/bits.deBruijn32tab", "math/bits.deBruijn64tab"], apart := false, laid := [("math/bits.deBruijn32tab", laid_math_bits_deBruijn32tab), ("math/bits.deBruijn64tab", laid_math_bits_deBruijn64tab), ("internal/strconv.uint64pow10", laid_internal_strconv_uint64pow10)] }
def PointsTablesSaid : Prop := pointsTablesRow.holds Tryd.pinned (OpenSpec.ofChange pointsTablesSpec)

/-- ITS FALSE NEIGHBOUR: 'it returns false'. Refute it at one input. -/
def pointsTablesWrong : ChangeSpec := { name := "pointsTables", fn := fun _ => fun
  | [d1, d2] => { results := [.lit (.bool false)], args := [d1, d2] }
  | _ => none }
def PointsTablesWrongFalsely : Prop := pointsTablesRow.holds Tryd.pinned (OpenSpec.ofChange pointsTablesWrong)

/-- 'scorebooklaw51.PointsSums': WHATEVER THE INPUT: true; the input reads as it did. -/
def pointsSumsSpec : ChangeSpec := { name := "pointsSums", fn := fun _ => fun
  | [d1, d2] => { results := [.lit (.bool true)], args := [d1, d2] }
  | _ => none }
def pointsSumsRow : OpenClaim := { program := "ytfnapmdedmbdbaadoor", sum := "e7b7a14da23f5cb3935c9980b3a9ec1208c355d90fcd6468633eb2c5e2db1ef3", func := "scorebook/scorebooklaw51.PointsSums", spec := "pointsSums", inPlace := ["math/bits.Add64", "internal/abi.NoEscape", "internal/bytealg.MakeNoZero"], unfollowed := true, recurses := true, named := ["internal/strconv.uint64pow10", "math/bits.deBruijn32tab", "math/bits.deBruijn64tab"], apart := false, laid := [("math/bits.deBruijn32tab", laid_math_bits_deBruijn32tab), ("math/bits.deBruijn64tab", laid_math_bits_deBruijn64tab), ("internal/strconv.uint64pow10", laid_internal_strconv_uint64pow10)] }
def PointsSumsSaid : Prop := pointsSumsRow.holds Tryd.pinned (OpenSpec.ofChange pointsSumsSpec)

/-- ITS FALSE NEIGHBOUR: 'it returns false'. Refute it at one input. -/
def pointsSumsWrong : ChangeSpec := { name := "pointsSums", fn := fun _ => fun
  | [d1, d2] => { results := [.lit (.bool false)], args := [d1, d2] }
  | _ => none }
def PointsSumsWrongFalsely : Prop := pointsSumsRow.holds Tryd.pinned (OpenSpec.ofChange pointsSumsWrong)

/-- 'scorebooklaw51.PointsTexts': WHATEVER THE INPUT: true; the input reads as it did. -/
def pointsTextsSpec : ChangeSpec := { name := "pointsTexts", fn := fun _ => fun
  | [d1, d2] => { results := [.lit (.bool true)], args := [d1, d2] }
  | _ => none }
def pointsTextsRow : OpenClaim := { program := "ytfnapmdedmbdbaadoor", sum := "e7b7a14da23f5cb3935c9980b3a9ec1208c355d90fcd6468633eb2c5e2db1ef3", func := "scorebook/scorebooklaw51.PointsTexts", spec := "pointsTexts", inPlace := ["math/bits.Add64", "internal/abi.NoEscape", "internal/bytealg.MakeNoZero"], unfollowed := true, recurses := true, named := ["internal/strconv.uint64pow10", "math/bits.deBruijn32tab", "math/bits.deBruijn64tab"], apart := false, laid := [("math/bits.deBruijn32tab", laid_math_bits_deBruijn32tab), ("math/bits.deBruijn64tab", laid_math_bits_deBruijn64tab), ("internal/strconv.uint64pow10", laid_internal_strconv_uint64pow10)] }
def PointsTextsSaid : Prop := pointsTextsRow.holds Tryd.pinned (OpenSpec.ofChange pointsTextsSpec)

/-- ITS FALSE NEIGHBOUR: 'it returns false'. Refute it at one input. -/
def pointsTextsWrong : ChangeSpec := { name := "pointsTexts", fn := fun _ => fun
  | [d1, d2] => { results := [.lit (.bool false)], args := [d1, d2] }
  | _ => none }
def PointsTextsWrongFalsely : Prop := pointsTextsRow.holds Tryd.pinned (OpenSpec.ofChange pointsTextsWrong)

/- THE SECOND FORM. 'bulk': how many values and letters a reading holds, each counted each time it is reached (what is shared counts as often as it is met; a slice's spare places count too). A statement '..UptoSaid' is the law's where the arguments, and the package variables that the reading takes, are together of bulk at most 1048576: NARROWER than '..Said'. Prove '..Said' where nothing that the law and all that it calls make is longer than what came in: it says more and counts as full. Else prove '..UptoSaid'. A law counts once. -/
mutual
def uptoBulk {H : Type} : DataW H → Nat
  | .lit (.string bytes) => bytes.length + 1
  | .lit _ => 1
  | .nil => 1
  | .ptr d => uptoBulk d + 1
  | .slice elems spare => uptoBulkAll elems + uptoBulkAll spare + 1
  | .agg parts => uptoBulkAll parts + 1
  | .iface _ d => uptoBulk d + 1
  | .map entries => uptoBulkEntries entries + 1
  | .held _ => 1
def uptoBulkAll {H : Type} : List (DataW H) → Nat
  | [] => 0
  | d :: r => uptoBulk d + uptoBulkAll r
def uptoBulkEntries {H : Type} : List (Lit × DataW H) → Nat
  | [] => 0
  | x :: r => uptoBulkEntry x + uptoBulkEntries r
def uptoBulkEntry {H : Type} : Lit × DataW H → Nat
  | (.string bytes, d) => bytes.length + uptoBulk d + 1
  | (_, d) => uptoBulk d + 1
 end
def uptoSmall : (H : Type) → List (DataW H) → Bool := fun _ ds => decide (uptoBulkAll ds ≤ 1048576)
def OpenSpec.upto (s : _root_.Go.ChangeSpec) : _root_.Go.OpenSpec := { _root_.Go.OpenSpec.ofChange s with cond := some uptoSmall }

/-- 'scorebooklaw51.PointsCompares', WHERE WHAT IT READS IS OF BULK AT MOST 1048576: true; the input reads as it did. -/
def pointsComparesUptoRow : OpenClaim := { program := "ytfnapmdedmbdbaadoor", sum := "e7b7a14da23f5cb3935c9980b3a9ec1208c355d90fcd6468633eb2c5e2db1ef3", func := "scorebook/scorebooklaw51.PointsCompares", spec := "pointsCompares", inPlace := ["math/bits.Add64", "internal/abi.NoEscape", "internal/bytealg.MakeNoZero"], unfollowed := true, recurses := true, named := ["internal/strconv.uint64pow10", "math/bits.deBruijn32tab", "math/bits.deBruijn64tab"], apart := false, laid := [("math/bits.deBruijn32tab", laid_math_bits_deBruijn32tab), ("math/bits.deBruijn64tab", laid_math_bits_deBruijn64tab), ("internal/strconv.uint64pow10", laid_internal_strconv_uint64pow10)], narrowed := true }
def PointsComparesUptoSaid : Prop := pointsComparesUptoRow.holds Tryd.pinned (OpenSpec.upto pointsComparesSpec)

/-- 'scorebooklaw51.PointsOrders', WHERE WHAT IT READS IS OF BULK AT MOST 1048576: true; the input reads as it did. -/
def pointsOrdersUptoRow : OpenClaim := { program := "ytfnapmdedmbdbaadoor", sum := "e7b7a14da23f5cb3935c9980b3a9ec1208c355d90fcd6468633eb2c5e2db1ef3", func := "scorebook/scorebooklaw51.PointsOrders", spec := "pointsOrders", inPlace := ["math/bits.Add64", "internal/abi.NoEscape", "internal/bytealg.MakeNoZero"], unfollowed := true, recurses := true, named := ["internal/strconv.uint64pow10", "math/bits.deBruijn32tab", "math/bits.deBruijn64tab"], apart := false, laid := [("math/bits.deBruijn32tab", laid_math_bits_deBruijn32tab), ("math/bits.deBruijn64tab", laid_math_bits_deBruijn64tab), ("internal/strconv.uint64pow10", laid_internal_strconv_uint64pow10)], narrowed := true }
def PointsOrdersUptoSaid : Prop := pointsOrdersUptoRow.holds Tryd.pinned (OpenSpec.upto pointsOrdersSpec)

/-- 'scorebooklaw51.PointsAny', WHERE WHAT IT READS IS OF BULK AT MOST 1048576: true; the input reads as it did. -/
def pointsAnyUptoRow : OpenClaim := { program := "ytfnapmdedmbdbaadoor", sum := "e7b7a14da23f5cb3935c9980b3a9ec1208c355d90fcd6468633eb2c5e2db1ef3", func := "scorebook/scorebooklaw51.PointsAny", spec := "pointsAny", inPlace := ["math/bits.Add64", "internal/abi.NoEscape", "internal/bytealg.MakeNoZero"], unfollowed := true, recurses := true, named := ["internal/strconv.uint64pow10", "math/bits.deBruijn32tab", "math/bits.deBruijn64tab"], apart := false, laid := [("math/bits.deBruijn32tab", laid_math_bits_deBruijn32tab), ("math/bits.deBruijn64tab", laid_math_bits_deBruijn64tab), ("internal/strconv.uint64pow10", laid_internal_strconv_uint64pow10)], narrowed := true }
def PointsAnyUptoSaid : Prop := pointsAnyUptoRow.holds Tryd.pinned (OpenSpec.upto pointsAnySpec)

/-- 'scorebooklaw51.PointsRates', WHERE WHAT IT READS IS OF BULK AT MOST 1048576: true; the input reads as it did. -/
def pointsRatesUptoRow : OpenClaim := { program := "ytfnapmdedmbdbaadoor", sum := "e7b7a14da23f5cb3935c9980b3a9ec1208c355d90fcd6468633eb2c5e2db1ef3", func := "scorebook/scorebooklaw51.PointsRates", spec := "pointsRates", inPlace := ["math/bits.Add64", "internal/abi.NoEscape", "internal/bytealg.MakeNoZero"], unfollowed := true, recurses := true, named := ["internal/strconv.uint64pow10", "math/bits.deBruijn32tab", "math/bits.deBruijn64tab"], apart := false, laid := [("math/bits.deBruijn32tab", laid_math_bits_deBruijn32tab), ("math/bits.deBruijn64tab", laid_math_bits_deBruijn64tab), ("internal/strconv.uint64pow10", laid_internal_strconv_uint64pow10)], narrowed := true }
def PointsRatesUptoSaid : Prop := pointsRatesUptoRow.holds Tryd.pinned (OpenSpec.upto pointsRatesSpec)

/-- 'scorebooklaw51.PointsTables', WHERE WHAT IT READS IS OF BULK AT MOST 1048576: true; the input reads as it did. -/
def pointsTablesUptoRow : OpenClaim := { program := "ytfnapmdedmbdbaadoor", sum := "e7b7a14da23f5cb3935c9980b3a9ec1208c355d90fcd6468633eb2c5e2db1ef3", func := "scorebook/scorebooklaw51.PointsTables", spec := "pointsTables", inPlace := ["math/bits.Add64", "internal/abi.NoEscape", "internal/bytealg.MakeNoZero"], unfollowed := true, recurses := true, named := ["internal/strconv.uint64pow10", "math/bits.deBruijn32tab", "math/bits.deBruijn64tab"], apart := false, laid := [("math/bits.deBruijn32tab", laid_math_bits_deBruijn32tab), ("math/bits.deBruijn64tab", laid_math_bits_deBruijn64tab), ("internal/strconv.uint64pow10", laid_internal_strconv_uint64pow10)], narrowed := true }
def PointsTablesUptoSaid : Prop := pointsTablesUptoRow.holds Tryd.pinned (OpenSpec.upto pointsTablesSpec)

/-- 'scorebooklaw51.PointsSums', WHERE WHAT IT READS IS OF BULK AT MOST 1048576: true; the input reads as it did. -/
def pointsSumsUptoRow : OpenClaim := { program := "ytfnapmdedmbdbaadoor", sum := "e7b7a14da23f5cb3935c9980b3a9ec1208c355d90fcd6468633eb2c5e2db1ef3", func := "scorebook/scorebooklaw51.PointsSums", spec := "pointsSums", inPlace := ["math/bits.Add64", "internal/abi.NoEscape", "internal/bytealg.MakeNoZero"], unfollowed := true, recurses := true, named := ["internal/strconv.uint64pow10", "math/bits.deBruijn32tab", "math/bits.deBruijn64tab"], apart := false, laid := [("math/bits.deBruijn32tab", laid_math_bits_deBruijn32tab), ("math/bits.deBruijn64tab", laid_math_bits_deBruijn64tab), ("internal/strconv.uint64pow10", laid_internal_strconv_uint64pow10)], narrowed := true }
def PointsSumsUptoSaid : Prop := pointsSumsUptoRow.holds Tryd.pinned (OpenSpec.upto pointsSumsSpec)

/-- 'scorebooklaw51.PointsTexts', WHERE WHAT IT READS IS OF BULK AT MOST 1048576: true; the input reads as it did. -/
def pointsTextsUptoRow : OpenClaim := { program := "ytfnapmdedmbdbaadoor", sum := "e7b7a14da23f5cb3935c9980b3a9ec1208c355d90fcd6468633eb2c5e2db1ef3", func := "scorebook/scorebooklaw51.PointsTexts", spec := "pointsTexts", inPlace := ["math/bits.Add64", "internal/abi.NoEscape", "internal/bytealg.MakeNoZero"], unfollowed := true, recurses := true, named := ["internal/strconv.uint64pow10", "math/bits.deBruijn32tab", "math/bits.deBruijn64tab"], apart := false, laid := [("math/bits.deBruijn32tab", laid_math_bits_deBruijn32tab), ("math/bits.deBruijn64tab", laid_math_bits_deBruijn64tab), ("internal/strconv.uint64pow10", laid_internal_strconv_uint64pow10)], narrowed := true }
def PointsTextsUptoSaid : Prop := pointsTextsUptoRow.holds Tryd.pinned (OpenSpec.upto pointsTextsSpec)

end Rows
end Go.Proofs.YtfnapmdedmbdbaaDoor
