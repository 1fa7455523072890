/-
  NARROWER THAN 'FOR EVERY INPUT', by the rows' own cells (each row's printed sentence says how): SyntaxChecks: laid · SyntaxSets: laid · SyntaxMeasures: laid · SyntaxPrints: laid · SyntaxTexts: laid · SyntaxDeep: laid · SyntaxEquals: laid · SyntaxNamed: laid.
  DERIVED. THE GIVEN ROWS OF THIS SEAT. 8 by the template 'for every input the law returns true; each argument reads behind the call as it read before'; 0 by the template 'total and deterministic' (their statements: YtaooojjhlngcmaaDoorTotals.lean).
  GIVEN WITH THE SEED: the statements are not yours to turn. If you find one false, say at which input.
  Laid BY PROGRAM, IN A SANDBOX (cutbox-rows.mjs): the forced cells as the released guide's own fill.sh prints them over the translation 93f85fc3c118af6a… (all of the seat's roots in one cut). By AI agents, Wed Nov 11 2026. No macro, syntax, notation, axiom, sorry.
-/
import Derived.Test.YtaooojjhlngcmaaDoorChecked
import GoSem.Claim
import GoSem.ClaimJoined
import GoSem.ClaimMapViews
import Derived.JoinedTies
import Derived.KernelRfl
namespace Go.Proofs.YtaooojjhlngcmaaDoor
/- THE CELL 'sum', in the pinned program and in every row, IS THE sha256 OF THE DUMP (.gsa) THAT YtaooojjhlngcmaaDoorProg.lean LOADS. Nothing in Lean hashes anything: it is a label: what it is worth is what the hold of that sum in a sandbox is worth. -/
noncomputable def Tryd.pinned : Pinned := { name := "ytaooojjhlngcmaadoor", sum := "93f85fc3c118af6ac95165236850d0e40068b242d3db42ccedf9387865d551ea", checked := Tryd.checked }
namespace Rows
def none {H : Type} : Left H := { results := [], args := [] }

/- WHAT THE LISTED PACKAGE-LEVEL VARIABLES READ AS WHEN THE CALL BEGINS. Each datum BY PROGRAM (the guide's laid-datum.mjs) off the statement by which the dump's own 'gosem.cut.vars' lays the variable. In a bare row this is a premise. The card (YtaooojjhlngcmaaDoorCards.lean) ties it to the program's text. -/
def laid_math_bits_deBruijn32tab {H : Type} : DataW H := .agg [.lit (.int .u8 0), .lit (.int .u8 1), .lit (.int .u8 28), .lit (.int .u8 2), .lit (.int .u8 29), .lit (.int .u8 14), .lit (.int .u8 24), .lit (.int .u8 3), .lit (.int .u8 30), .lit (.int .u8 22), .lit (.int .u8 20), .lit (.int .u8 15), .lit (.int .u8 25), .lit (.int .u8 17), .lit (.int .u8 4), .lit (.int .u8 8), .lit (.int .u8 31), .lit (.int .u8 27), .lit (.int .u8 13), .lit (.int .u8 23), .lit (.int .u8 21), .lit (.int .u8 19), .lit (.int .u8 16), .lit (.int .u8 7), .lit (.int .u8 26), .lit (.int .u8 12), .lit (.int .u8 18), .lit (.int .u8 6), .lit (.int .u8 11), .lit (.int .u8 5), .lit (.int .u8 10), .lit (.int .u8 9)]
def laid_math_bits_deBruijn64tab {H : Type} : DataW H := .agg [.lit (.int .u8 0), .lit (.int .u8 1), .lit (.int .u8 56), .lit (.int .u8 2), .lit (.int .u8 57), .lit (.int .u8 49), .lit (.int .u8 28), .lit (.int .u8 3), .lit (.int .u8 61), .lit (.int .u8 58), .lit (.int .u8 42), .lit (.int .u8 50), .lit (.int .u8 38), .lit (.int .u8 29), .lit (.int .u8 17), .lit (.int .u8 4), .lit (.int .u8 62), .lit (.int .u8 47), .lit (.int .u8 59), .lit (.int .u8 36), .lit (.int .u8 45), .lit (.int .u8 43), .lit (.int .u8 51), .lit (.int .u8 22), .lit (.int .u8 53), .lit (.int .u8 39), .lit (.int .u8 33), .lit (.int .u8 30), .lit (.int .u8 24), .lit (.int .u8 18), .lit (.int .u8 12), .lit (.int .u8 5), .lit (.int .u8 63), .lit (.int .u8 55), .lit (.int .u8 48), .lit (.int .u8 27), .lit (.int .u8 60), .lit (.int .u8 41), .lit (.int .u8 37), .lit (.int .u8 16), .lit (.int .u8 46), .lit (.int .u8 35), .lit (.int .u8 44), .lit (.int .u8 21), .lit (.int .u8 52), .lit (.int .u8 32), .lit (.int .u8 23), .lit (.int .u8 11), .lit (.int .u8 54), .lit (.int .u8 26), .lit (.int .u8 40), .lit (.int .u8 15), .lit (.int .u8 34), .lit (.int .u8 20), .lit (.int .u8 31), .lit (.int .u8 10), .lit (.int .u8 25), .lit (.int .u8 14), .lit (.int .u8 19), .lit (.int .u8 9), .lit (.int .u8 13), .lit (.int .u8 8), .lit (.int .u8 7), .lit (.int .u8 6)]
def laid_internal_strconv_uint64pow10 {H : Type} : DataW H := .agg [.lit (.int .u64 1), .lit (.int .u64 10), .lit (.int .u64 100), .lit (.int .u64 1000), .lit (.int .u64 10000), .lit (.int .u64 100000), .lit (.int .u64 1000000), .lit (.int .u64 10000000), .lit (.int .u64 100000000), .lit (.int .u64 1000000000), .lit (.int .u64 10000000000), .lit (.int .u64 100000000000), .lit (.int .u64 1000000000000), .lit (.int .u64 10000000000000), .lit (.int .u64 100000000000000), .lit (.int .u64 1000000000000000), .lit (.int .u64 10000000000000000), .lit (.int .u64 100000000000000000), .lit (.int .u64 1000000000000000000), .lit (.int .u64 10000000000000000000)]

/-- 'arbaclaw16.SyntaxChecks': WHATEVER THE INPUT: true; the input reads as it did. -/
def syntaxChecksSpec : ChangeSpec := { name := "syntaxChecks", fn := fun _ => fun
  | [d] => { results := [.lit (.bool true)], args := [d] }
  | _ => none }
def syntaxChecksRow : OpenClaim := { program := "ytaooojjhlngcmaadoor", sum := "93f85fc3c118af6ac95165236850d0e40068b242d3db42ccedf9387865d551ea", func := "arbac/arbaclaw16.SyntaxChecks", spec := "syntaxChecks", inPlace := ["internal/abi.NoEscape", "internal/bytealg.MakeNoZero"], unfollowed := true, recurses := true, named := ["internal/strconv.uint64pow10", "math/bits.deBruijn32tab", "math/bits.deBruijn64tab"], apart := false, laid := [("math/bits.deBruijn32tab", laid_math_bits_deBruijn32tab), ("math/bits.deBruijn64tab", laid_math_bits_deBruijn64tab), ("internal/strconv.uint64pow10", laid_internal_strconv_uint64pow10)] }
def SyntaxChecksSaid : Prop := syntaxChecksRow.holds Tryd.pinned (OpenSpec.ofChange syntaxChecksSpec)

/-- ITS FALSE NEIGHBOUR: 'it returns false'. Refute it at one input. -/
def syntaxChecksWrong : ChangeSpec := { name := "syntaxChecks", fn := fun _ => fun
  | [d] => { results := [.lit (.bool false)], args := [d] }
  | _ => none }
def SyntaxChecksWrongFalsely : Prop := syntaxChecksRow.holds Tryd.pinned (OpenSpec.ofChange syntaxChecksWrong)

/-- 'arbaclaw16.SyntaxSets': WHATEVER THE INPUT: true; the input reads as it did. -/
def syntaxSetsSpec : ChangeSpec := { name := "syntaxSets", fn := fun _ => fun
  | [d] => { results := [.lit (.bool true)], args := [d] }
  | _ => none }
def syntaxSetsRow : OpenClaim := { program := "ytaooojjhlngcmaadoor", sum := "93f85fc3c118af6ac95165236850d0e40068b242d3db42ccedf9387865d551ea", func := "arbac/arbaclaw16.SyntaxSets", spec := "syntaxSets", inPlace := ["internal/abi.NoEscape", "internal/bytealg.MakeNoZero"], unfollowed := true, recurses := true, named := ["internal/strconv.uint64pow10", "math/bits.deBruijn32tab", "math/bits.deBruijn64tab"], apart := false, laid := [("math/bits.deBruijn32tab", laid_math_bits_deBruijn32tab), ("math/bits.deBruijn64tab", laid_math_bits_deBruijn64tab), ("internal/strconv.uint64pow10", laid_internal_strconv_uint64pow10)] }
def SyntaxSetsSaid : Prop := syntaxSetsRow.holds Tryd.pinned (OpenSpec.ofChange syntaxSetsSpec)

/-- ITS FALSE NEIGHBOUR: 'it returns false'. Refute it at one input. -/
def syntaxSetsWrong : ChangeSpec := { name := "syntaxSets", fn := fun _ => fun
  | [d] => { results := [.lit (.bool false)], args := [d] }
  | _ => none }
def SyntaxSetsWrongFalsely : Prop := syntaxSetsRow.holds Tryd.pinned (OpenSpec.ofChange syntaxSetsWrong)

/-- 'arbaclaw16.SyntaxMeasures': WHATEVER THE INPUT: true; the input reads as it did. -/
def syntaxMeasuresSpec : ChangeSpec := { name := "syntaxMeasures", fn := fun _ => fun
  | [d] => { results := [.lit (.bool true)], args := [d] }
  | _ => none }
def syntaxMeasuresRow : OpenClaim := { program := "ytaooojjhlngcmaadoor", sum := "93f85fc3c118af6ac95165236850d0e40068b242d3db42ccedf9387865d551ea", func := "arbac/arbaclaw16.SyntaxMeasures", spec := "syntaxMeasures", inPlace := ["internal/abi.NoEscape", "internal/bytealg.MakeNoZero"], unfollowed := true, recurses := true, named := ["internal/strconv.uint64pow10", "math/bits.deBruijn32tab", "math/bits.deBruijn64tab"], apart := false, laid := [("math/bits.deBruijn32tab", laid_math_bits_deBruijn32tab), ("math/bits.deBruijn64tab", laid_math_bits_deBruijn64tab), ("internal/strconv.uint64pow10", laid_internal_strconv_uint64pow10)] }
def SyntaxMeasuresSaid : Prop := syntaxMeasuresRow.holds Tryd.pinned (OpenSpec.ofChange syntaxMeasuresSpec)

/-- ITS FALSE NEIGHBOUR: 'it returns false'. Refute it at one input. -/
def syntaxMeasuresWrong : ChangeSpec := { name := "syntaxMeasures", fn := fun _ => fun
  | [d] => { results := [.lit (.bool false)], args := [d] }
  | _ => none }
def SyntaxMeasuresWrongFalsely : Prop := syntaxMeasuresRow.holds Tryd.pinned (OpenSpec.ofChange syntaxMeasuresWrong)

/-- 'arbaclaw16.SyntaxPrints': WHATEVER THE INPUT: true; the input reads as it did. -/
def syntaxPrintsSpec : ChangeSpec := { name := "syntaxPrints", fn := fun _ => fun
  | [d] => { results := [.lit (.bool true)], args := [d] }
  | _ => none }
def syntaxPrintsRow : OpenClaim := { program := "ytaooojjhlngcmaadoor", sum := "93f85fc3c118af6ac95165236850d0e40068b242d3db42ccedf9387865d551ea", func := "arbac/arbaclaw16.SyntaxPrints", spec := "syntaxPrints", inPlace := ["internal/abi.NoEscape", "internal/bytealg.MakeNoZero"], unfollowed := true, recurses := true, named := ["internal/strconv.uint64pow10", "math/bits.deBruijn32tab", "math/bits.deBruijn64tab"], apart := false, laid := [("math/bits.deBruijn32tab", laid_math_bits_deBruijn32tab), ("math/bits.deBruijn64tab", laid_math_bits_deBruijn64tab), ("internal/strconv.uint64pow10", laid_internal_strconv_uint64pow10)] }
def SyntaxPrintsSaid : Prop := syntaxPrintsRow.holds Tryd.pinned (OpenSpec.ofChange syntaxPrintsSpec)

/-- ITS FALSE NEIGHBOUR: 'it returns false'. Refute it at one input. -/
def syntaxPrintsWrong : ChangeSpec := { name := "syntaxPrints", fn := fun _ => fun
  | [d] => { results := [.lit (.bool false)], args := [d] }
  | _ => none }
def SyntaxPrintsWrongFalsely : Prop := syntaxPrintsRow.holds Tryd.pinned (OpenSpec.ofChange syntaxPrintsWrong)

/-- 'arbaclaw16.SyntaxTexts': WHATEVER THE INPUT: true; the input reads as it did. -/
def syntaxTextsSpec : ChangeSpec := { name := "syntaxTexts", fn := fun _ => fun
  | [d1, d2] => { results := [.lit (.bool true)], args := [d1, d2] }
  | _ => none }
def syntaxTextsRow : OpenClaim := { program := "ytaooojjhlngcmaadoor", sum := "93f85fc3c118af6ac95165236850d0e40068b242d3db42ccedf9387865d551ea", func := "arbac/arbaclaw16.SyntaxTexts", spec := "syntaxTexts", inPlace := ["internal/abi.NoEscape", "internal/bytealg.MakeNoZero"], unfollowed := true, recurses := true, named := ["internal/strconv.uint64pow10", "math/bits.deBruijn32tab", "math/bits.deBruijn64tab"], apart := false, laid := [("math/bits.deBruijn32tab", laid_math_bits_deBruijn32tab), ("math/bits.deBruijn64tab", laid_math_bits_deBruijn64tab), ("internal/strconv.uint64pow10", laid_internal_strconv_uint64pow10)] }
def SyntaxTextsSaid : Prop := syntaxTextsRow.holds Tryd.pinned (OpenSpec.ofChange syntaxTextsSpec)

/-- ITS FALSE NEIGHBOUR: 'it returns false'. Refute it at one input. -/
def syntaxTextsWrong : ChangeSpec := { name := "syntaxTexts", fn := fun _ => fun
  | [d1, d2] => { results := [.lit (.bool false)], args := [d1, d2] }
  | _ => none }
def SyntaxTextsWrongFalsely : Prop := syntaxTextsRow.holds Tryd.pinned (OpenSpec.ofChange syntaxTextsWrong)

/-- 'arbaclaw16.SyntaxDeep': WHATEVER THE INPUT: true; the input reads as it did. -/
def syntaxDeepSpec : ChangeSpec := { name := "syntaxDeep", fn := fun _ => fun
  | [d1, d2] => { results := [.lit (.bool true)], args := [d1, d2] }
  | _ => none }
def syntaxDeepRow : OpenClaim := { program := "ytaooojjhlngcmaadoor", sum := "93f85fc3c118af6ac95165236850d0e40068b242d3db42ccedf9387865d551ea", func := "arbac/arbaclaw16.SyntaxDeep", spec := "syntaxDeep", inPlace := ["internal/abi.NoEscape", "internal/bytealg.MakeNoZero"], unfollowed := true, recurses := true, named := ["internal/strconv.uint64pow10", "math/bits.deBruijn32tab", "math/bits.deBruijn64tab"], apart := false, laid := [("math/bits.deBruijn32tab", laid_math_bits_deBruijn32tab), ("math/bits.deBruijn64tab", laid_math_bits_deBruijn64tab), ("internal/strconv.uint64pow10", laid_internal_strconv_uint64pow10)] }
def SyntaxDeepSaid : Prop := syntaxDeepRow.holds Tryd.pinned (OpenSpec.ofChange syntaxDeepSpec)

/-- ITS FALSE NEIGHBOUR: 'it returns false'. Refute it at one input. -/
def syntaxDeepWrong : ChangeSpec := { name := "syntaxDeep", fn := fun _ => fun
  | [d1, d2] => { results := [.lit (.bool false)], args := [d1, d2] }
  | _ => none }
def SyntaxDeepWrongFalsely : Prop := syntaxDeepRow.holds Tryd.pinned (OpenSpec.ofChange syntaxDeepWrong)

/-- 'arbaclaw16.SyntaxEquals': WHATEVER THE INPUT: true; the input reads as it did. -/
def syntaxEqualsSpec : ChangeSpec := { name := "syntaxEquals", fn := fun _ => fun
  | [d1, d2] => { results := [.lit (.bool true)], args := [d1, d2] }
  | _ => none }
def syntaxEqualsRow : OpenClaim := { program := "ytaooojjhlngcmaadoor", sum := "93f85fc3c118af6ac95165236850d0e40068b242d3db42ccedf9387865d551ea", func := "arbac/arbaclaw16.SyntaxEquals", spec := "syntaxEquals", inPlace := ["internal/abi.NoEscape", "internal/bytealg.MakeNoZero"], unfollowed := true, recurses := true, named := ["internal/strconv.uint64pow10", "math/bits.deBruijn32tab", "math/bits.deBruijn64tab"], apart := false, laid := [("math/bits.deBruijn32tab", laid_math_bits_deBruijn32tab), ("math/bits.deBruijn64tab", laid_math_bits_deBruijn64tab), ("internal/strconv.uint64pow10", laid_internal_strconv_uint64pow10)] }
def SyntaxEqualsSaid : Prop := syntaxEqualsRow.holds Tryd.pinned (OpenSpec.ofChange syntaxEqualsSpec)

/-- ITS FALSE NEIGHBOUR: 'it returns false'. Refute it at one input. -/
def syntaxEqualsWrong : ChangeSpec := { name := "syntaxEquals", fn := fun _ => fun
  | [d1, d2] => { results := [.lit (.bool false)], args := [d1, d2] }
  | _ => none }
def SyntaxEqualsWrongFalsely : Prop := syntaxEqualsRow.holds Tryd.pinned (OpenSpec.ofChange syntaxEqualsWrong)

/-- 'arbaclaw16.SyntaxNamed': WHATEVER THE INPUT: true; the input reads as it did. -/
def syntaxNamedSpec : ChangeSpec := { name := "syntaxNamed", fn := fun _ => fun
  | [d] => { results := [.lit (.bool true)], args := [d] }
  | _ => none }
def syntaxNamedRow : OpenClaim := { program := "ytaooojjhlngcmaadoor", sum := "93f85fc3c118af6ac95165236850d0e40068b242d3db42ccedf9387865d551ea", func := "arbac/arbaclaw16.SyntaxNamed", spec := "syntaxNamed", inPlace := ["internal/abi.NoEscape", "internal/bytealg.MakeNoZero", "maps.clone"], unfollowed := true, recurses := true, named := ["internal/strconv.uint64pow10", "math/bits.deBruijn32tab", "math/bits.deBruijn64tab"], apart := false, laid := [("math/bits.deBruijn32tab", laid_math_bits_deBruijn32tab), ("math/bits.deBruijn64tab", laid_math_bits_deBruijn64tab), ("internal/strconv.uint64pow10", laid_internal_strconv_uint64pow10)] }
def SyntaxNamedSaid : Prop := syntaxNamedRow.holds Tryd.pinned (OpenSpec.ofChange syntaxNamedSpec)

/-- ITS FALSE NEIGHBOUR: 'it returns false'. Refute it at one input. -/
def syntaxNamedWrong : ChangeSpec := { name := "syntaxNamed", fn := fun _ => fun
  | [d] => { results := [.lit (.bool false)], args := [d] }
  | _ => none }
def SyntaxNamedWrongFalsely : Prop := syntaxNamedRow.holds Tryd.pinned (OpenSpec.ofChange syntaxNamedWrong)

/- THE SECOND FORM. 'bulk': how many values and letters a reading holds, each counted each time it is reached (what is shared counts as often as it is met; a slice's spare places count too). A statement '..UptoSaid' is the law's where the arguments, and the package variables that the reading takes, are together of bulk at most 1048576: NARROWER than '..Said'. Prove '..Said' where nothing that the law and all that it calls make is longer than what came in: it says more and counts as full. Else prove '..UptoSaid'. A law counts once. -/
mutual
def uptoBulk {H : Type} : DataW H → Nat
  | .lit (.string bytes) => bytes.length + 1
  | .lit _ => 1
  | .nil => 1
  | .ptr d => uptoBulk d + 1
  | .slice elems spare => uptoBulkAll elems + uptoBulkAll spare + 1
  | .agg parts => uptoBulkAll parts + 1
  | .iface _ d => uptoBulk d + 1
  | .map entries => uptoBulkEntries entries + 1
  | .held _ => 1
def uptoBulkAll {H : Type} : List (DataW H) → Nat
  | [] => 0
  | d :: r => uptoBulk d + uptoBulkAll r
def uptoBulkEntries {H : Type} : List (Lit × DataW H) → Nat
  | [] => 0
  | x :: r => uptoBulkEntry x + uptoBulkEntries r
def uptoBulkEntry {H : Type} : Lit × DataW H → Nat
  | (.string bytes, d) => bytes.length + uptoBulk d + 1
  | (_, d) => uptoBulk d + 1
 end
def uptoSmall : (H : Type) → List (DataW H) → Bool := fun _ ds => decide (uptoBulkAll ds ≤ 1048576)
def OpenSpec.upto (s : _root_.Go.ChangeSpec) : _root_.Go.OpenSpec := { _root_.Go.OpenSpec.ofChange s with cond := some uptoSmall }

/-- 'arbaclaw16.SyntaxChecks', WHERE WHAT IT READS IS OF BULK AT MOST 1048576: true; the input reads as it did. -/
def syntaxChecksUptoRow : OpenClaim := { program := "ytaooojjhlngcmaadoor", sum := "93f85fc3c118af6ac95165236850d0e40068b242d3db42ccedf9387865d551ea", func := "arbac/arbaclaw16.SyntaxChecks", spec := "syntaxChecks", inPlace := ["internal/abi.NoEscape", "internal/bytealg.MakeNoZero"], unfollowed := true, recurses := true, named := ["internal/strconv.uint64pow10", "math/bits.deBruijn32tab", "math/bits.deBruijn64tab"], apart := false, laid := [("math/bits.deBruijn32tab", laid_math_bits_deBruijn32tab), ("math/bits.deBruijn64tab", laid_math_bits_deBruijn64tab), ("internal/strconv.uint64pow10", laid_internal_strconv_uint64pow10)], narrowed := true }
def SyntaxChecksUptoSaid : Prop := syntaxChecksUptoRow.holds Tryd.pinned (OpenSpec.upto syntaxChecksSpec)

/-- 'arbaclaw16.SyntaxSets', WHERE WHAT IT READS IS OF BULK AT MOST 1048576: true; the input reads as it did. -/
def syntaxSetsUptoRow : OpenClaim := { program := "ytaooojjhlngcmaadoor", sum := "93f85fc3c118af6ac95165236850d0e40068b242d3db42ccedf9387865d551ea", func := "arbac/arbaclaw16.SyntaxSets", spec := "syntaxSets", inPlace := ["internal/abi.NoEscape", "internal/bytealg.MakeNoZero"], unfollowed := true, recurses := true, named := ["internal/strconv.uint64pow10", "math/bits.deBruijn32tab", "math/bits.deBruijn64tab"], apart := false, laid := [("math/bits.deBruijn32tab", laid_math_bits_deBruijn32tab), ("math/bits.deBruijn64tab", laid_math_bits_deBruijn64tab), ("internal/strconv.uint64pow10", laid_internal_strconv_uint64pow10)], narrowed := true }
def SyntaxSetsUptoSaid : Prop := syntaxSetsUptoRow.holds Tryd.pinned (OpenSpec.upto syntaxSetsSpec)

/-- 'arbaclaw16.SyntaxMeasures', WHERE WHAT IT READS IS OF BULK AT MOST 1048576: true; the input reads as it did. -/
def syntaxMeasuresUptoRow : OpenClaim := { program := "ytaooojjhlngcmaadoor", sum := "93f85fc3c118af6ac95165236850d0e40068b242d3db42ccedf9387865d551ea", func := "arbac/arbaclaw16.SyntaxMeasures", spec := "syntaxMeasures", inPlace := ["internal/abi.NoEscape", "internal/bytealg.MakeNoZero"], unfollowed := true, recurses := true, named := ["internal/strconv.uint64pow10", "math/bits.deBruijn32tab", "math/bits.deBruijn64tab"], apart := false, laid := [("math/bits.deBruijn32tab", laid_math_bits_deBruijn32tab), ("math/bits.deBruijn64tab", laid_math_bits_deBruijn64tab), ("internal/strconv.uint64pow10", laid_internal_strconv_uint64pow10)], narrowed := true }
def SyntaxMeasuresUptoSaid : Prop := syntaxMeasuresUptoRow.holds Tryd.pinned (OpenSpec.upto syntaxMeasuresSpec)

/-- 'arbaclaw16.SyntaxPrints', WHERE WHAT IT READS IS OF BULK AT MOST 1048576: true; the input reads as it did. -/
def syntaxPrintsUptoRow : OpenClaim := { program := "ytaooojjhlngcmaadoor", sum := "93f85fc3c118af6ac95165236850d0e40068b242d3db42ccedf9387865d551ea", func := "arbac/arbaclaw16.SyntaxPrints", spec := "syntaxPrints", inPlace := ["internal/abi.NoEscape", "internal/bytealg.MakeNoZero"], unfollowed := true, recurses := true, named := ["internal/strconv.uint64pow10", "math/bits.deBruijn32tab", "math/bits.deBruijn64tab"], apart := false, laid := [("math/bits.deBruijn32tab", laid_math_bits_deBruijn32tab), ("math/bits.deBruijn64tab", laid_math_bits_deBruijn64tab), ("internal/strconv.uint64pow10", laid_internal_strconv_uint64pow10)], narrowed := true }
def SyntaxPrintsUptoSaid : Prop := syntaxPrintsUptoRow.holds Tryd.pinned (OpenSpec.upto syntaxPrintsSpec)

/-- 'arbaclaw16.SyntaxTexts', WHERE WHAT IT READS IS OF BULK AT MOST 1048576: true; the input reads as it did. -/
def syntaxTextsUptoRow : OpenClaim := { program := "ytaooojjhlngcmaadoor", sum := "93f85fc3c118af6ac95165236850d0e40068b242d3db42ccedf9387865d551ea", func := "arbac/arbaclaw16.SyntaxTexts", spec := "syntaxTexts", inPlace := ["internal/abi.NoEscape", "internal/bytealg.MakeNoZero"], unfollowed := true, recurses := true, named := ["internal/strconv.uint64pow10", "math/bits.deBruijn32tab", "math/bits.deBruijn64tab"], apart := false, laid := [("math/bits.deBruijn32tab", laid_math_bits_deBruijn32tab), ("math/bits.deBruijn64tab", laid_math_bits_deBruijn64tab), ("internal/strconv.uint64pow10", laid_internal_strconv_uint64pow10)], narrowed := true }
def SyntaxTextsUptoSaid : Prop := syntaxTextsUptoRow.holds Tryd.pinned (OpenSpec.upto syntaxTextsSpec)

/-- 'arbaclaw16.SyntaxDeep', WHERE WHAT IT READS IS OF BULK AT MOST 1048576: true; the input reads as it did. -/
def syntaxDeepUptoRow : OpenClaim := { program := "ytaooojjhlngcmaadoor", sum := "93f85fc3c118af6ac95165236850d0e40068b242d3db42ccedf9387865d551ea", func := "arbac/arbaclaw16.SyntaxDeep", spec := "syntaxDeep", inPlace := ["internal/abi.NoEscape", "internal/bytealg.MakeNoZero"], unfollowed := true, recurses := true, named := ["internal/strconv.uint64pow10", "math/bits.deBruijn32tab", "math/bits.deBruijn64tab"], apart := false, laid := [("math/bits.deBruijn32tab", laid_math_bits_deBruijn32tab), ("math/bits.deBruijn64tab", laid_math_bits_deBruijn64tab), ("internal/strconv.uint64pow10", laid_internal_strconv_uint64pow10)], narrowed := true }
def SyntaxDeepUptoSaid : Prop := syntaxDeepUptoRow.holds Tryd.pinned (OpenSpec.upto syntaxDeepSpec)

/-- 'arbaclaw16.SyntaxEquals', WHERE WHAT IT READS IS OF BULK AT MOST 1048576: true; the input reads as it did. -/
def syntaxEqualsUptoRow : OpenClaim := { program := "ytaooojjhlngcmaadoor", sum := "93f85fc3c118af6ac95165236850d0e40068b242d3db42ccedf9387865d551ea", func := "arbac/arbaclaw16.SyntaxEquals", spec := "syntaxEquals", inPlace := ["internal/abi.NoEscape", "internal/bytealg.MakeNoZero"], unfollowed := true, recurses := true, named := ["internal/strconv.uint64pow10", "math/bits.deBruijn32tab", "math/bits.deBruijn64tab"], apart := false, laid := [("math/bits.deBruijn32tab", laid_math_bits_deBruijn32tab), ("math/bits.deBruijn64tab", laid_math_bits_deBruijn64tab), ("internal/strconv.uint64pow10", laid_internal_strconv_uint64pow10)], narrowed := true }
def SyntaxEqualsUptoSaid : Prop := syntaxEqualsUptoRow.holds Tryd.pinned (OpenSpec.upto syntaxEqualsSpec)

/-- 'arbaclaw16.SyntaxNamed', WHERE WHAT IT READS IS OF BULK AT MOST 1048576: true; the input reads as it did. -/
def syntaxNamedUptoRow : OpenClaim := { program := "ytaooojjhlngcmaadoor", sum := "93f85fc3c118af6ac95165236850d0e40068b242d3db42ccedf9387865d551ea", func := "arbac/arbaclaw16.SyntaxNamed", spec := "syntaxNamed", inPlace := ["internal/abi.NoEscape", "internal/bytealg.MakeNoZero", "maps.clone"], unfollowed := true, recurses := true, named := ["internal/strconv.uint64pow10", "math/bits.deBruijn32tab", "math/bits.deBruijn64tab"], apart := false, laid := [("math/bits.deBruijn32tab", laid_math_bits_deBruijn32tab), ("math/bits.deBruijn64tab", laid_math_bits_deBruijn64tab), ("internal/strconv.uint64pow10", laid_internal_strconv_uint64pow10)], narrowed := true }
def SyntaxNamedUptoSaid : Prop := syntaxNamedUptoRow.holds Tryd.pinned (OpenSpec.upto syntaxNamedSpec)

end Rows
end Go.Proofs.YtaooojjhlngcmaaDoor
