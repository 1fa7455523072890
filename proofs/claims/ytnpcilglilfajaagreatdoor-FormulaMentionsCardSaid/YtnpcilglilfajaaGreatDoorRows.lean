/-
  NARROWER THAN 'FOR EVERY INPUT', by the rows' own cells (each row's printed sentence says how): FormulaChecks: laid · FormulaTypes: laid · FormulaLimits: laid · FormulaRefuses: laid · FormulaResolves: laid · FormulaSyntax: laid · FormulaMentions: laid · FormulaBytes: laid · FormulaReads: laid · FormulaAll: laid.
  DERIVED. THE GIVEN ROWS OF THIS SEAT. 10 by the template 'for every input the law returns true; each argument reads behind the call as it read before'; 0 by the template 'total and deterministic' (their statements: YtnpcilglilfajaaGreatDoorTotals.lean).
  GIVEN WITH THE SEED: the statements are not yours to turn. If you find one false, say at which input.
  Laid BY PROGRAM, IN A SANDBOX (cutbox-rows.mjs): the forced cells as the released guide's own fill.sh prints them over the translation bcd2e63cbc901f55… (all of the seat's roots in one cut). By AI agents, Wed Nov 11 2026. No macro, syntax, notation, axiom, sorry.
-/
import Derived.Test.YtnpcilglilfajaaGreatDoorChecked
import GoSem.Claim
import GoSem.ClaimJoined
import GoSem.ClaimMapViews
import Derived.JoinedTies
import Derived.KernelRfl
namespace Go.Proofs.YtnpcilglilfajaaGreatDoor
/- THE CELL 'sum', in the pinned program and in every row, IS THE sha256 OF THE DUMP (.gsa) THAT YtnpcilglilfajaaGreatDoorProg.lean LOADS. Nothing in Lean hashes anything: it is a label: what it is worth is what the hold of that sum in a sandbox is worth. -/
noncomputable def Tryz.pinned : Pinned := { name := "ytnpcilglilfajaagreatdoor", sum := "bcd2e63cbc901f5558d521cb38a26ee075aa56ddaefc88e65b4f3e9a864d7225", checked := Tryz.checked }
namespace Rows
def none {H : Type} : Left H := { results := [], args := [] }

/- WHAT THE LISTED PACKAGE-LEVEL VARIABLES READ AS WHEN THE CALL BEGINS. Each datum BY PROGRAM (the guide's laid-datum.mjs) off the statement by which the dump's own 'gosem.cut.vars' lays the variable. In a bare row this is a premise. The card (YtnpcilglilfajaaGreatDoorCards.lean) ties it to the program's text. -/
def laid_math_bits_deBruijn32tab {H : Type} : DataW H := .agg [.lit (.int .u8 0), .lit (.int .u8 1), .lit (.int .u8 28), .lit (.int .u8 2), .lit (.int .u8 29), .lit (.int .u8 14), .lit (.int .u8 24), .lit (.int .u8 3), .lit (.int .u8 30), .lit (.int .u8 22), .lit (.int .u8 20), .lit (.int .u8 15), .lit (.int .u8 25), .lit (.int .u8 17), .lit (.int .u8 4), .lit (.int .u8 8), .lit (.int .u8 31), .lit (.int .u8 27), .lit (.int .u8 13), .lit (.int .u8 23), .lit (.int .u8 21), .lit (.int .u8 19), .lit (.int .u8 16), .lit (.int .u8 7), .lit (.int .u8 26), .lit (.int .u8 12), .lit (.int .u8 18), .lit (.int .u8 6), .lit (.int .u8 11), .lit (.int .u8 5), .lit (.int .u8 10), .lit (.int .u8 9)]
def laid_math_bits_deBruijn64tab {H : Type} : DataW H := .agg [.lit (.int .u8 0), .lit (.int .u8 1), .lit (.int .u8 56), .lit (.int .u8 2), .lit (.int .u8 57), .lit (.int .u8 49), .lit (.int .u8 28), .lit (.int .u8 3), .lit (.int .u8 61), .lit (.int .u8 58), .lit (.int .u8 42), .lit (.int .u8 50), .lit (.int .u8 38), .lit (.int .u8 29), .lit (.int .u8 17), .lit (.int .u8 4), .lit (.int .u8 62), .lit (.int .u8 47), .lit (.int .u8 59), .lit (.int .u8 36), .lit (.int .u8 45), .lit (.int .u8 43), .lit (.int .u8 51), .lit (.int .u8 22), .lit (.int .u8 53), .lit (.int .u8 39), .lit (.int .u8 33), .lit (.int .u8 30), .lit (.int .u8 24), .lit (.int .u8 18), .lit (.int .u8 12), .lit (.int .u8 5), .lit (.int .u8 63), .lit (.int .u8 55), .lit (.int .u8 48), .lit (.int .u8 27), .lit (.int .u8 60), .lit (.int .u8 41), .lit (.int .u8 37), .lit (.int .u8 16), .lit (.int .u8 46), .lit (.int .u8 35), .lit (.int .u8 44), .lit (.int .u8 21), .lit (.int .u8 52), .lit (.int .u8 32), .lit (.int .u8 23), .lit (.int .u8 11), .lit (.int .u8 54), .lit (.int .u8 26), .lit (.int .u8 40), .lit (.int .u8 15), .lit (.int .u8 34), .lit (.int .u8 20), .lit (.int .u8 31), .lit (.int .u8 10), .lit (.int .u8 25), .lit (.int .u8 14), .lit (.int .u8 19), .lit (.int .u8 9), .lit (.int .u8 13), .lit (.int .u8 8), .lit (.int .u8 7), .lit (.int .u8 6)]
def laid_internal_strconv_uint64pow10 {H : Type} : DataW H := .agg [.lit (.int .u64 1), .lit (.int .u64 10), .lit (.int .u64 100), .lit (.int .u64 1000), .lit (.int .u64 10000), .lit (.int .u64 100000), .lit (.int .u64 1000000), .lit (.int .u64 10000000), .lit (.int .u64 100000000), .lit (.int .u64 1000000000), .lit (.int .u64 10000000000), .lit (.int .u64 100000000000), .lit (.int .u64 1000000000000), .lit (.int .u64 10000000000000), .lit (.int .u64 100000000000000), .lit (.int .u64 1000000000000000), .lit (.int .u64 10000000000000000), .lit (.int .u64 100000000000000000), .lit (.int .u64 1000000000000000000), .lit (.int .u64 10000000000000000000)]

/-- 'arbaclaw18.FormulaChecks': WHATEVER THE INPUT: true; the input reads as it did. -/
def formulaChecksSpec : ChangeSpec := { name := "formulaChecks", fn := fun _ => fun
  | [d1, d2] => { results := [.lit (.bool true)], args := [d1, d2] }
  | _ => none }
def formulaChecksRow : OpenClaim := { program := "ytnpcilglilfajaagreatdoor", sum := "bcd2e63cbc901f5558d521cb38a26ee075aa56ddaefc88e65b4f3e9a864d7225", func := "arbac/arbaclaw18.FormulaChecks", spec := "formulaChecks", inPlace := ["maps.clone", "internal/abi.NoEscape"], unfollowed := true, recurses := true, named := ["math/bits.deBruijn64tab", "internal/strconv.uint64pow10", "math/bits.deBruijn32tab"], apart := false, laid := [("math/bits.deBruijn32tab", laid_math_bits_deBruijn32tab), ("math/bits.deBruijn64tab", laid_math_bits_deBruijn64tab), ("internal/strconv.uint64pow10", laid_internal_strconv_uint64pow10)] }
def FormulaChecksSaid : Prop := formulaChecksRow.holds Tryz.pinned (OpenSpec.ofChange formulaChecksSpec)

/-- ITS FALSE NEIGHBOUR: 'it returns false'. Refute it at one input. -/
def formulaChecksWrong : ChangeSpec := { name := "formulaChecks", fn := fun _ => fun
  | [d1, d2] => { results := [.lit (.bool false)], args := [d1, d2] }
  | _ => none }
def FormulaChecksWrongFalsely : Prop := formulaChecksRow.holds Tryz.pinned (OpenSpec.ofChange formulaChecksWrong)

/-- 'arbaclaw18.FormulaTypes': WHATEVER THE INPUT: true; the input reads as it did. -/
def formulaTypesSpec : ChangeSpec := { name := "formulaTypes", fn := fun _ => fun
  | [d1, d2, d3] => { results := [.lit (.bool true)], args := [d1, d2, d3] }
  | _ => none }
def formulaTypesRow : OpenClaim := { program := "ytnpcilglilfajaagreatdoor", sum := "bcd2e63cbc901f5558d521cb38a26ee075aa56ddaefc88e65b4f3e9a864d7225", func := "arbac/arbaclaw18.FormulaTypes", spec := "formulaTypes", inPlace := ["maps.clone", "internal/abi.NoEscape"], unfollowed := true, recurses := true, named := ["math/bits.deBruijn64tab", "internal/strconv.uint64pow10", "math/bits.deBruijn32tab"], apart := false, laid := [("math/bits.deBruijn32tab", laid_math_bits_deBruijn32tab), ("math/bits.deBruijn64tab", laid_math_bits_deBruijn64tab), ("internal/strconv.uint64pow10", laid_internal_strconv_uint64pow10)] }
def FormulaTypesSaid : Prop := formulaTypesRow.holds Tryz.pinned (OpenSpec.ofChange formulaTypesSpec)

/-- ITS FALSE NEIGHBOUR: 'it returns false'. Refute it at one input. -/
def formulaTypesWrong : ChangeSpec := { name := "formulaTypes", fn := fun _ => fun
  | [d1, d2, d3] => { results := [.lit (.bool false)], args := [d1, d2, d3] }
  | _ => none }
def FormulaTypesWrongFalsely : Prop := formulaTypesRow.holds Tryz.pinned (OpenSpec.ofChange formulaTypesWrong)

/-- 'arbaclaw18.FormulaLimits': WHATEVER THE INPUT: true; the input reads as it did. -/
def formulaLimitsSpec : ChangeSpec := { name := "formulaLimits", fn := fun _ => fun
  | [d1, d2] => { results := [.lit (.bool true)], args := [d1, d2] }
  | _ => none }
def formulaLimitsRow : OpenClaim := { program := "ytnpcilglilfajaagreatdoor", sum := "bcd2e63cbc901f5558d521cb38a26ee075aa56ddaefc88e65b4f3e9a864d7225", func := "arbac/arbaclaw18.FormulaLimits", spec := "formulaLimits", inPlace := ["maps.clone", "internal/abi.NoEscape"], unfollowed := true, recurses := true, named := ["math/bits.deBruijn64tab", "internal/strconv.uint64pow10", "math/bits.deBruijn32tab"], apart := false, laid := [("math/bits.deBruijn32tab", laid_math_bits_deBruijn32tab), ("math/bits.deBruijn64tab", laid_math_bits_deBruijn64tab), ("internal/strconv.uint64pow10", laid_internal_strconv_uint64pow10)] }
def FormulaLimitsSaid : Prop := formulaLimitsRow.holds Tryz.pinned (OpenSpec.ofChange formulaLimitsSpec)

/-- ITS FALSE NEIGHBOUR: 'it returns false'. Refute it at one input. -/
def formulaLimitsWrong : ChangeSpec := { name := "formulaLimits", fn := fun _ => fun
  | [d1, d2] => { results := [.lit (.bool false)], args := [d1, d2] }
  | _ => none }
def FormulaLimitsWrongFalsely : Prop := formulaLimitsRow.holds Tryz.pinned (OpenSpec.ofChange formulaLimitsWrong)

/-- 'arbaclaw18.FormulaRefuses': WHATEVER THE INPUT: true; the input reads as it did. -/
def formulaRefusesSpec : ChangeSpec := { name := "formulaRefuses", fn := fun _ => fun
  | [d1, d2, d3] => { results := [.lit (.bool true)], args := [d1, d2, d3] }
  | _ => none }
def formulaRefusesRow : OpenClaim := { program := "ytnpcilglilfajaagreatdoor", sum := "bcd2e63cbc901f5558d521cb38a26ee075aa56ddaefc88e65b4f3e9a864d7225", func := "arbac/arbaclaw18.FormulaRefuses", spec := "formulaRefuses", inPlace := ["maps.clone", "internal/abi.NoEscape"], unfollowed := true, recurses := true, named := ["math/bits.deBruijn64tab", "internal/strconv.uint64pow10", "math/bits.deBruijn32tab"], apart := false, laid := [("math/bits.deBruijn32tab", laid_math_bits_deBruijn32tab), ("math/bits.deBruijn64tab", laid_math_bits_deBruijn64tab), ("internal/strconv.uint64pow10", laid_internal_strconv_uint64pow10)] }
def FormulaRefusesSaid : Prop := formulaRefusesRow.holds Tryz.pinned (OpenSpec.ofChange formulaRefusesSpec)

/-- ITS FALSE NEIGHBOUR: 'it returns false'. Refute it at one input. -/
def formulaRefusesWrong : ChangeSpec := { name := "formulaRefuses", fn := fun _ => fun
  | [d1, d2, d3] => { results := [.lit (.bool false)], args := [d1, d2, d3] }
  | _ => none }
def FormulaRefusesWrongFalsely : Prop := formulaRefusesRow.holds Tryz.pinned (OpenSpec.ofChange formulaRefusesWrong)

/-- 'arbaclaw18.FormulaResolves': WHATEVER THE INPUT: true; the input reads as it did. -/
def formulaResolvesSpec : ChangeSpec := { name := "formulaResolves", fn := fun _ => fun
  | [d1, d2] => { results := [.lit (.bool true)], args := [d1, d2] }
  | _ => none }
def formulaResolvesRow : OpenClaim := { program := "ytnpcilglilfajaagreatdoor", sum := "bcd2e63cbc901f5558d521cb38a26ee075aa56ddaefc88e65b4f3e9a864d7225", func := "arbac/arbaclaw18.FormulaResolves", spec := "formulaResolves", inPlace := ["maps.clone", "internal/abi.NoEscape"], unfollowed := true, recurses := true, named := ["math/bits.deBruijn64tab", "internal/strconv.uint64pow10", "math/bits.deBruijn32tab"], apart := false, laid := [("math/bits.deBruijn32tab", laid_math_bits_deBruijn32tab), ("math/bits.deBruijn64tab", laid_math_bits_deBruijn64tab), ("internal/strconv.uint64pow10", laid_internal_strconv_uint64pow10)] }
def FormulaResolvesSaid : Prop := formulaResolvesRow.holds Tryz.pinned (OpenSpec.ofChange formulaResolvesSpec)

/-- ITS FALSE NEIGHBOUR: 'it returns false'. Refute it at one input. -/
def formulaResolvesWrong : ChangeSpec := { name := "formulaResolves", fn := fun _ => fun
  | [d1, d2] => { results := [.lit (.bool false)], args := [d1, d2] }
  | _ => none }
def FormulaResolvesWrongFalsely : Prop := formulaResolvesRow.holds Tryz.pinned (OpenSpec.ofChange formulaResolvesWrong)

/-- 'arbaclaw18.FormulaSyntax': WHATEVER THE INPUT: true; the input reads as it did. -/
def formulaSyntaxSpec : ChangeSpec := { name := "formulaSyntax", fn := fun _ => fun
  | [d1, d2] => { results := [.lit (.bool true)], args := [d1, d2] }
  | _ => none }
def formulaSyntaxRow : OpenClaim := { program := "ytnpcilglilfajaagreatdoor", sum := "bcd2e63cbc901f5558d521cb38a26ee075aa56ddaefc88e65b4f3e9a864d7225", func := "arbac/arbaclaw18.FormulaSyntax", spec := "formulaSyntax", inPlace := ["maps.clone", "internal/abi.NoEscape"], unfollowed := true, recurses := true, named := ["math/bits.deBruijn64tab", "internal/strconv.uint64pow10", "math/bits.deBruijn32tab"], apart := false, laid := [("math/bits.deBruijn32tab", laid_math_bits_deBruijn32tab), ("math/bits.deBruijn64tab", laid_math_bits_deBruijn64tab), ("internal/strconv.uint64pow10", laid_internal_strconv_uint64pow10)] }
def FormulaSyntaxSaid : Prop := formulaSyntaxRow.holds Tryz.pinned (OpenSpec.ofChange formulaSyntaxSpec)

/-- ITS FALSE NEIGHBOUR: 'it returns false'. Refute it at one input. -/
def formulaSyntaxWrong : ChangeSpec := { name := "formulaSyntax", fn := fun _ => fun
  | [d1, d2] => { results := [.lit (.bool false)], args := [d1, d2] }
  | _ => none }
def FormulaSyntaxWrongFalsely : Prop := formulaSyntaxRow.holds Tryz.pinned (OpenSpec.ofChange formulaSyntaxWrong)

/-- 'arbaclaw18.FormulaMentions': WHATEVER THE INPUT: true; the input reads as it did. -/
def formulaMentionsSpec : ChangeSpec := { name := "formulaMentions", fn := fun _ => fun
  | [d1, d2] => { results := [.lit (.bool true)], args := [d1, d2] }
  | _ => none }
def formulaMentionsRow : OpenClaim := { program := "ytnpcilglilfajaagreatdoor", sum := "bcd2e63cbc901f5558d521cb38a26ee075aa56ddaefc88e65b4f3e9a864d7225", func := "arbac/arbaclaw18.FormulaMentions", spec := "formulaMentions", inPlace := ["maps.clone", "internal/abi.NoEscape"], unfollowed := true, recurses := true, named := ["math/bits.deBruijn64tab", "internal/strconv.uint64pow10", "math/bits.deBruijn32tab"], apart := false, laid := [("math/bits.deBruijn32tab", laid_math_bits_deBruijn32tab), ("math/bits.deBruijn64tab", laid_math_bits_deBruijn64tab), ("internal/strconv.uint64pow10", laid_internal_strconv_uint64pow10)] }
def FormulaMentionsSaid : Prop := formulaMentionsRow.holds Tryz.pinned (OpenSpec.ofChange formulaMentionsSpec)

/-- ITS FALSE NEIGHBOUR: 'it returns false'. Refute it at one input. -/
def formulaMentionsWrong : ChangeSpec := { name := "formulaMentions", fn := fun _ => fun
  | [d1, d2] => { results := [.lit (.bool false)], args := [d1, d2] }
  | _ => none }
def FormulaMentionsWrongFalsely : Prop := formulaMentionsRow.holds Tryz.pinned (OpenSpec.ofChange formulaMentionsWrong)

/-- 'arbaclaw18.FormulaBytes': WHATEVER THE INPUT: true; the input reads as it did. -/
def formulaBytesSpec : ChangeSpec := { name := "formulaBytes", fn := fun _ => fun
  | [d1, d2] => { results := [.lit (.bool true)], args := [d1, d2] }
  | _ => none }
def formulaBytesRow : OpenClaim := { program := "ytnpcilglilfajaagreatdoor", sum := "bcd2e63cbc901f5558d521cb38a26ee075aa56ddaefc88e65b4f3e9a864d7225", func := "arbac/arbaclaw18.FormulaBytes", spec := "formulaBytes", inPlace := ["maps.clone", "internal/abi.NoEscape"], unfollowed := true, recurses := true, named := ["math/bits.deBruijn64tab", "internal/strconv.uint64pow10", "math/bits.deBruijn32tab"], apart := false, laid := [("math/bits.deBruijn32tab", laid_math_bits_deBruijn32tab), ("math/bits.deBruijn64tab", laid_math_bits_deBruijn64tab), ("internal/strconv.uint64pow10", laid_internal_strconv_uint64pow10)] }
def FormulaBytesSaid : Prop := formulaBytesRow.holds Tryz.pinned (OpenSpec.ofChange formulaBytesSpec)

/-- ITS FALSE NEIGHBOUR: 'it returns false'. Refute it at one input. -/
def formulaBytesWrong : ChangeSpec := { name := "formulaBytes", fn := fun _ => fun
  | [d1, d2] => { results := [.lit (.bool false)], args := [d1, d2] }
  | _ => none }
def FormulaBytesWrongFalsely : Prop := formulaBytesRow.holds Tryz.pinned (OpenSpec.ofChange formulaBytesWrong)

/-- 'arbaclaw18.FormulaReads': WHATEVER THE INPUT: true; the input reads as it did. -/
def formulaReadsSpec : ChangeSpec := { name := "formulaReads", fn := fun _ => fun
  | [d1, d2, d3] => { results := [.lit (.bool true)], args := [d1, d2, d3] }
  | _ => none }
def formulaReadsRow : OpenClaim := { program := "ytnpcilglilfajaagreatdoor", sum := "bcd2e63cbc901f5558d521cb38a26ee075aa56ddaefc88e65b4f3e9a864d7225", func := "arbac/arbaclaw18.FormulaReads", spec := "formulaReads", inPlace := ["maps.clone", "internal/abi.NoEscape"], unfollowed := true, recurses := true, named := ["math/bits.deBruijn64tab", "internal/strconv.uint64pow10", "math/bits.deBruijn32tab"], apart := false, laid := [("math/bits.deBruijn32tab", laid_math_bits_deBruijn32tab), ("math/bits.deBruijn64tab", laid_math_bits_deBruijn64tab), ("internal/strconv.uint64pow10", laid_internal_strconv_uint64pow10)] }
def FormulaReadsSaid : Prop := formulaReadsRow.holds Tryz.pinned (OpenSpec.ofChange formulaReadsSpec)

/-- ITS FALSE NEIGHBOUR: 'it returns false'. Refute it at one input. -/
def formulaReadsWrong : ChangeSpec := { name := "formulaReads", fn := fun _ => fun
  | [d1, d2, d3] => { results := [.lit (.bool false)], args := [d1, d2, d3] }
  | _ => none }
def FormulaReadsWrongFalsely : Prop := formulaReadsRow.holds Tryz.pinned (OpenSpec.ofChange formulaReadsWrong)

/-- 'arbaclaw18.FormulaAll': WHATEVER THE INPUT: true; the input reads as it did. -/
def formulaAllSpec : ChangeSpec := { name := "formulaAll", fn := fun _ => fun
  | [d1, d2] => { results := [.lit (.bool true)], args := [d1, d2] }
  | _ => none }
def formulaAllRow : OpenClaim := { program := "ytnpcilglilfajaagreatdoor", sum := "bcd2e63cbc901f5558d521cb38a26ee075aa56ddaefc88e65b4f3e9a864d7225", func := "arbac/arbaclaw18.FormulaAll", spec := "formulaAll", inPlace := ["maps.clone", "internal/abi.NoEscape", "internal/bytealg.MakeNoZero"], unfollowed := true, recurses := true, named := ["math/bits.deBruijn64tab", "internal/strconv.uint64pow10", "math/bits.deBruijn32tab"], apart := false, laid := [("math/bits.deBruijn32tab", laid_math_bits_deBruijn32tab), ("math/bits.deBruijn64tab", laid_math_bits_deBruijn64tab), ("internal/strconv.uint64pow10", laid_internal_strconv_uint64pow10)] }
def FormulaAllSaid : Prop := formulaAllRow.holds Tryz.pinned (OpenSpec.ofChange formulaAllSpec)

/-- ITS FALSE NEIGHBOUR: 'it returns false'. Refute it at one input. -/
def formulaAllWrong : ChangeSpec := { name := "formulaAll", fn := fun _ => fun
  | [d1, d2] => { results := [.lit (.bool false)], args := [d1, d2] }
  | _ => none }
def FormulaAllWrongFalsely : Prop := formulaAllRow.holds Tryz.pinned (OpenSpec.ofChange formulaAllWrong)

/- THE SECOND FORM. 'bulk': how many values and letters a reading holds, each counted each time it is reached (what is shared counts as often as it is met; a slice's spare places count too). A statement '..UptoSaid' is the law's where the arguments, and the package variables that the reading takes, are together of bulk at most 1048576: NARROWER than '..Said'. Prove '..Said' where nothing that the law and all that it calls make is longer than what came in: it says more and counts as full. Else prove '..UptoSaid'. A law counts once. -/
mutual
def uptoBulk {H : Type} : DataW H → Nat
  | .lit (.string bytes) => bytes.length + 1
  | .lit _ => 1
  | .nil => 1
  | .ptr d => uptoBulk d + 1
  | .slice elems spare => uptoBulkAll elems + uptoBulkAll spare + 1
  | .agg parts => uptoBulkAll parts + 1
  | .iface _ d => uptoBulk d + 1
  | .map entries => uptoBulkEntries entries + 1
  | .held _ => 1
def uptoBulkAll {H : Type} : List (DataW H) → Nat
  | [] => 0
  | d :: r => uptoBulk d + uptoBulkAll r
def uptoBulkEntries {H : Type} : List (Lit × DataW H) → Nat
  | [] => 0
  | x :: r => uptoBulkEntry x + uptoBulkEntries r
def uptoBulkEntry {H : Type} : Lit × DataW H → Nat
  | (.string bytes, d) => bytes.length + uptoBulk d + 1
  | (_, d) => uptoBulk d + 1
 end
def uptoSmall : (H : Type) → List (DataW H) → Bool := fun _ ds => decide (uptoBulkAll ds ≤ 1048576)
def OpenSpec.upto (s : _root_.Go.ChangeSpec) : _root_.Go.OpenSpec := { _root_.Go.OpenSpec.ofChange s with cond := some uptoSmall }

/-- 'arbaclaw18.FormulaChecks', WHERE WHAT IT READS IS OF BULK AT MOST 1048576: true; the input reads as it did. -/
def formulaChecksUptoRow : OpenClaim := { program := "ytnpcilglilfajaagreatdoor", sum := "bcd2e63cbc901f5558d521cb38a26ee075aa56ddaefc88e65b4f3e9a864d7225", func := "arbac/arbaclaw18.FormulaChecks", spec := "formulaChecks", inPlace := ["maps.clone", "internal/abi.NoEscape"], unfollowed := true, recurses := true, named := ["math/bits.deBruijn64tab", "internal/strconv.uint64pow10", "math/bits.deBruijn32tab"], apart := false, laid := [("math/bits.deBruijn32tab", laid_math_bits_deBruijn32tab), ("math/bits.deBruijn64tab", laid_math_bits_deBruijn64tab), ("internal/strconv.uint64pow10", laid_internal_strconv_uint64pow10)], narrowed := true }
def FormulaChecksUptoSaid : Prop := formulaChecksUptoRow.holds Tryz.pinned (OpenSpec.upto formulaChecksSpec)

/-- 'arbaclaw18.FormulaTypes', WHERE WHAT IT READS IS OF BULK AT MOST 1048576: true; the input reads as it did. -/
def formulaTypesUptoRow : OpenClaim := { program := "ytnpcilglilfajaagreatdoor", sum := "bcd2e63cbc901f5558d521cb38a26ee075aa56ddaefc88e65b4f3e9a864d7225", func := "arbac/arbaclaw18.FormulaTypes", spec := "formulaTypes", inPlace := ["maps.clone", "internal/abi.NoEscape"], unfollowed := true, recurses := true, named := ["math/bits.deBruijn64tab", "internal/strconv.uint64pow10", "math/bits.deBruijn32tab"], apart := false, laid := [("math/bits.deBruijn32tab", laid_math_bits_deBruijn32tab), ("math/bits.deBruijn64tab", laid_math_bits_deBruijn64tab), ("internal/strconv.uint64pow10", laid_internal_strconv_uint64pow10)], narrowed := true }
def FormulaTypesUptoSaid : Prop := formulaTypesUptoRow.holds Tryz.pinned (OpenSpec.upto formulaTypesSpec)

/-- 'arbaclaw18.FormulaLimits', WHERE WHAT IT READS IS OF BULK AT MOST 1048576: true; the input reads as it did. -/
def formulaLimitsUptoRow : OpenClaim := { program := "ytnpcilglilfajaagreatdoor", sum := "bcd2e63cbc901f5558d521cb38a26ee075aa56ddaefc88e65b4f3e9a864d7225", func := "arbac/arbaclaw18.FormulaLimits", spec := "formulaLimits", inPlace := ["maps.clone", "internal/abi.NoEscape"], unfollowed := true, recurses := true, named := ["math/bits.deBruijn64tab", "internal/strconv.uint64pow10", "math/bits.deBruijn32tab"], apart := false, laid := [("math/bits.deBruijn32tab", laid_math_bits_deBruijn32tab), ("math/bits.deBruijn64tab", laid_math_bits_deBruijn64tab), ("internal/strconv.uint64pow10", laid_internal_strconv_uint64pow10)], narrowed := true }
def FormulaLimitsUptoSaid : Prop := formulaLimitsUptoRow.holds Tryz.pinned (OpenSpec.upto formulaLimitsSpec)

/-- 'arbaclaw18.FormulaRefuses', WHERE WHAT IT READS IS OF BULK AT MOST 1048576: true; the input reads as it did. -/
def formulaRefusesUptoRow : OpenClaim := { program := "ytnpcilglilfajaagreatdoor", sum := "bcd2e63cbc901f5558d521cb38a26ee075aa56ddaefc88e65b4f3e9a864d7225", func := "arbac/arbaclaw18.FormulaRefuses", spec := "formulaRefuses", inPlace := ["maps.clone", "internal/abi.NoEscape"], unfollowed := true, recurses := true, named := ["math/bits.deBruijn64tab", "internal/strconv.uint64pow10", "math/bits.deBruijn32tab"], apart := false, laid := [("math/bits.deBruijn32tab", laid_math_bits_deBruijn32tab), ("math/bits.deBruijn64tab", laid_math_bits_deBruijn64tab), ("internal/strconv.uint64pow10", laid_internal_strconv_uint64pow10)], narrowed := true }
def FormulaRefusesUptoSaid : Prop := formulaRefusesUptoRow.holds Tryz.pinned (OpenSpec.upto formulaRefusesSpec)

/-- 'arbaclaw18.FormulaResolves', WHERE WHAT IT READS IS OF BULK AT MOST 1048576: true; the input reads as it did. -/
def formulaResolvesUptoRow : OpenClaim := { program := "ytnpcilglilfajaagreatdoor", sum := "bcd2e63cbc901f5558d521cb38a26ee075aa56ddaefc88e65b4f3e9a864d7225", func := "arbac/arbaclaw18.FormulaResolves", spec := "formulaResolves", inPlace := ["maps.clone", "internal/abi.NoEscape"], unfollowed := true, recurses := true, named := ["math/bits.deBruijn64tab", "internal/strconv.uint64pow10", "math/bits.deBruijn32tab"], apart := false, laid := [("math/bits.deBruijn32tab", laid_math_bits_deBruijn32tab), ("math/bits.deBruijn64tab", laid_math_bits_deBruijn64tab), ("internal/strconv.uint64pow10", laid_internal_strconv_uint64pow10)], narrowed := true }
def FormulaResolvesUptoSaid : Prop := formulaResolvesUptoRow.holds Tryz.pinned (OpenSpec.upto formulaResolvesSpec)

/-- 'arbaclaw18.FormulaSyntax', WHERE WHAT IT READS IS OF BULK AT MOST 1048576: true; the input reads as it did. -/
def formulaSyntaxUptoRow : OpenClaim := { program := "ytnpcilglilfajaagreatdoor", sum := "bcd2e63cbc901f5558d521cb38a26ee075aa56ddaefc88e65b4f3e9a864d7225", func := "arbac/arbaclaw18.FormulaSyntax", spec := "formulaSyntax", inPlace := ["maps.clone", "internal/abi.NoEscape"], unfollowed := true, recurses := true, named := ["math/bits.deBruijn64tab", "internal/strconv.uint64pow10", "math/bits.deBruijn32tab"], apart := false, laid := [("math/bits.deBruijn32tab", laid_math_bits_deBruijn32tab), ("math/bits.deBruijn64tab", laid_math_bits_deBruijn64tab), ("internal/strconv.uint64pow10", laid_internal_strconv_uint64pow10)], narrowed := true }
def FormulaSyntaxUptoSaid : Prop := formulaSyntaxUptoRow.holds Tryz.pinned (OpenSpec.upto formulaSyntaxSpec)

/-- 'arbaclaw18.FormulaMentions', WHERE WHAT IT READS IS OF BULK AT MOST 1048576: true; the input reads as it did. -/
def formulaMentionsUptoRow : OpenClaim := { program := "ytnpcilglilfajaagreatdoor", sum := "bcd2e63cbc901f5558d521cb38a26ee075aa56ddaefc88e65b4f3e9a864d7225", func := "arbac/arbaclaw18.FormulaMentions", spec := "formulaMentions", inPlace := ["maps.clone", "internal/abi.NoEscape"], unfollowed := true, recurses := true, named := ["math/bits.deBruijn64tab", "internal/strconv.uint64pow10", "math/bits.deBruijn32tab"], apart := false, laid := [("math/bits.deBruijn32tab", laid_math_bits_deBruijn32tab), ("math/bits.deBruijn64tab", laid_math_bits_deBruijn64tab), ("internal/strconv.uint64pow10", laid_internal_strconv_uint64pow10)], narrowed := true }
def FormulaMentionsUptoSaid : Prop := formulaMentionsUptoRow.holds Tryz.pinned (OpenSpec.upto formulaMentionsSpec)

/-- 'arbaclaw18.FormulaBytes', WHERE WHAT IT READS IS OF BULK AT MOST 1048576: true; the input reads as it did. -/
def formulaBytesUptoRow : OpenClaim := { program := "ytnpcilglilfajaagreatdoor", sum := "bcd2e63cbc901f5558d521cb38a26ee075aa56ddaefc88e65b4f3e9a864d7225", func := "arbac/arbaclaw18.FormulaBytes", spec := "formulaBytes", inPlace := ["maps.clone", "internal/abi.NoEscape"], unfollowed := true, recurses := true, named := ["math/bits.deBruijn64tab", "internal/strconv.uint64pow10", "math/bits.deBruijn32tab"], apart := false, laid := [("math/bits.deBruijn32tab", laid_math_bits_deBruijn32tab), ("math/bits.deBruijn64tab", laid_math_bits_deBruijn64tab), ("internal/strconv.uint64pow10", laid_internal_strconv_uint64pow10)], narrowed := true }
def FormulaBytesUptoSaid : Prop := formulaBytesUptoRow.holds Tryz.pinned (OpenSpec.upto formulaBytesSpec)

/-- 'arbaclaw18.FormulaReads', WHERE WHAT IT READS IS OF BULK AT MOST 1048576: true; the input reads as it did. -/
def formulaReadsUptoRow : OpenClaim := { program := "ytnpcilglilfajaagreatdoor", sum := "bcd2e63cbc901f5558d521cb38a26ee075aa56ddaefc88e65b4f3e9a864d7225", func := "arbac/arbaclaw18.FormulaReads", spec := "formulaReads", inPlace := ["maps.clone", "internal/abi.NoEscape"], unfollowed := true, recurses := true, named := ["math/bits.deBruijn64tab", "internal/strconv.uint64pow10", "math/bits.deBruijn32tab"], apart := false, laid := [("math/bits.deBruijn32tab", laid_math_bits_deBruijn32tab), ("math/bits.deBruijn64tab", laid_math_bits_deBruijn64tab), ("internal/strconv.uint64pow10", laid_internal_strconv_uint64pow10)], narrowed := true }
def FormulaReadsUptoSaid : Prop := formulaReadsUptoRow.holds Tryz.pinned (OpenSpec.upto formulaReadsSpec)

/-- 'arbaclaw18.FormulaAll', WHERE WHAT IT READS IS OF BULK AT MOST 1048576: true; the input reads as it did. -/
def formulaAllUptoRow : OpenClaim := { program := "ytnpcilglilfajaagreatdoor", sum := "bcd2e63cbc901f5558d521cb38a26ee075aa56ddaefc88e65b4f3e9a864d7225", func := "arbac/arbaclaw18.FormulaAll", spec := "formulaAll", inPlace := ["maps.clone", "internal/abi.NoEscape", "internal/bytealg.MakeNoZero"], unfollowed := true, recurses := true, named := ["math/bits.deBruijn64tab", "internal/strconv.uint64pow10", "math/bits.deBruijn32tab"], apart := false, laid := [("math/bits.deBruijn32tab", laid_math_bits_deBruijn32tab), ("math/bits.deBruijn64tab", laid_math_bits_deBruijn64tab), ("internal/strconv.uint64pow10", laid_internal_strconv_uint64pow10)], narrowed := true }
def FormulaAllUptoSaid : Prop := formulaAllUptoRow.holds Tryz.pinned (OpenSpec.upto formulaAllSpec)

end Rows
end Go.Proofs.YtnpcilglilfajaaGreatDoor
