/-
  NARROWER THAN 'FOR EVERY INPUT', by the rows' own cells (each row's printed sentence says how): ParserEnds: laid · ParserExprs: laid · ParserBack: laid · ParserParens: laid · ParserSources: laid · ParserBlanks: laid · ParserSets: laid · ParserJoins: laid · ParserLimits: laid.
  DERIVED. THE GIVEN ROWS OF THIS SEAT. 9 by the template 'for every input the law returns true; each argument reads behind the call as it read before'; 0 by the template 'total and deterministic' (their statements: YtnabbnhefjfegaaGreatDoorTotals.lean).
  GIVEN WITH THE SEED: the statements are not yours to turn. If you find one false, say at which input.
  Laid BY PROGRAM, IN A SANDBOX (cutbox-rows.mjs): the forced cells as the released guide's own fill.sh prints them over the translation 5f9485a2ccb625ec… (all of the seat's roots in one cut). By AI agents, Wed Nov 11 2026. No macro, syntax, notation, axiom, sorry.
-/
import Derived.Test.YtnabbnhefjfegaaGreatDoorChecked
import GoSem.Claim
import GoSem.ClaimJoined
import GoSem.ClaimMapViews
import Derived.JoinedTies
import Derived.KernelRfl
namespace Go.Proofs.YtnabbnhefjfegaaGreatDoor
/- THE CELL 'sum', in the pinned program and in every row, IS THE sha256 OF THE DUMP (.gsa) THAT YtnabbnhefjfegaaGreatDoorProg.lean LOADS. Nothing in Lean hashes anything: it is a label: what it is worth is what the hold of that sum in a sandbox is worth. -/
noncomputable def Tryz.pinned : Pinned := { name := "ytnabbnhefjfegaagreatdoor", sum := "5f9485a2ccb625ec74a1979b9d019459f7e4da186e8d0bc69c286cf3765b2409", checked := Tryz.checked }
namespace Rows
def none {H : Type} : Left H := { results := [], args := [] }

/- WHAT THE LISTED PACKAGE-LEVEL VARIABLES READ AS WHEN THE CALL BEGINS. Each datum BY PROGRAM (the guide's laid-datum.mjs) off the statement by which the dump's own 'gosem.cut.vars' lays the variable. In a bare row this is a premise. The card (YtnabbnhefjfegaaGreatDoorCards.lean) ties it to the program's text. -/
def laid_math_bits_deBruijn32tab {H : Type} : DataW H := .agg [.lit (.int .u8 0), .lit (.int .u8 1), .lit (.int .u8 28), .lit (.int .u8 2), .lit (.int .u8 29), .lit (.int .u8 14), .lit (.int .u8 24), .lit (.int .u8 3), .lit (.int .u8 30), .lit (.int .u8 22), .lit (.int .u8 20), .lit (.int .u8 15), .lit (.int .u8 25), .lit (.int .u8 17), .lit (.int .u8 4), .lit (.int .u8 8), .lit (.int .u8 31), .lit (.int .u8 27), .lit (.int .u8 13), .lit (.int .u8 23), .lit (.int .u8 21), .lit (.int .u8 19), .lit (.int .u8 16), .lit (.int .u8 7), .lit (.int .u8 26), .lit (.int .u8 12), .lit (.int .u8 18), .lit (.int .u8 6), .lit (.int .u8 11), .lit (.int .u8 5), .lit (.int .u8 10), .lit (.int .u8 9)]
def laid_math_bits_deBruijn64tab {H : Type} : DataW H := .agg [.lit (.int .u8 0), .lit (.int .u8 1), .lit (.int .u8 56), .lit (.int .u8 2), .lit (.int .u8 57), .lit (.int .u8 49), .lit (.int .u8 28), .lit (.int .u8 3), .lit (.int .u8 61), .lit (.int .u8 58), .lit (.int .u8 42), .lit (.int .u8 50), .lit (.int .u8 38), .lit (.int .u8 29), .lit (.int .u8 17), .lit (.int .u8 4), .lit (.int .u8 62), .lit (.int .u8 47), .lit (.int .u8 59), .lit (.int .u8 36), .lit (.int .u8 45), .lit (.int .u8 43), .lit (.int .u8 51), .lit (.int .u8 22), .lit (.int .u8 53), .lit (.int .u8 39), .lit (.int .u8 33), .lit (.int .u8 30), .lit (.int .u8 24), .lit (.int .u8 18), .lit (.int .u8 12), .lit (.int .u8 5), .lit (.int .u8 63), .lit (.int .u8 55), .lit (.int .u8 48), .lit (.int .u8 27), .lit (.int .u8 60), .lit (.int .u8 41), .lit (.int .u8 37), .lit (.int .u8 16), .lit (.int .u8 46), .lit (.int .u8 35), .lit (.int .u8 44), .lit (.int .u8 21), .lit (.int .u8 52), .lit (.int .u8 32), .lit (.int .u8 23), .lit (.int .u8 11), .lit (.int .u8 54), .lit (.int .u8 26), .lit (.int .u8 40), .lit (.int .u8 15), .lit (.int .u8 34), .lit (.int .u8 20), .lit (.int .u8 31), .lit (.int .u8 10), .lit (.int .u8 25), .lit (.int .u8 14), .lit (.int .u8 19), .lit (.int .u8 9), .lit (.int .u8 13), .lit (.int .u8 8), .lit (.int .u8 7), .lit (.int .u8 6)]
def laid_internal_strconv_uint64pow10 {H : Type} : DataW H := .agg [.lit (.int .u64 1), .lit (.int .u64 10), .lit (.int .u64 100), .lit (.int .u64 1000), .lit (.int .u64 10000), .lit (.int .u64 100000), .lit (.int .u64 1000000), .lit (.int .u64 10000000), .lit (.int .u64 100000000), .lit (.int .u64 1000000000), .lit (.int .u64 10000000000), .lit (.int .u64 100000000000), .lit (.int .u64 1000000000000), .lit (.int .u64 10000000000000), .lit (.int .u64 100000000000000), .lit (.int .u64 1000000000000000), .lit (.int .u64 10000000000000000), .lit (.int .u64 100000000000000000), .lit (.int .u64 1000000000000000000), .lit (.int .u64 10000000000000000000)]

/-- 'arbaclaw17.ParserEnds': WHATEVER THE INPUT: true; the input reads as it did. -/
def parserEndsSpec : ChangeSpec := { name := "parserEnds", fn := fun _ => fun
  | [d] => { results := [.lit (.bool true)], args := [d] }
  | _ => none }
def parserEndsRow : OpenClaim := { program := "ytnabbnhefjfegaagreatdoor", sum := "5f9485a2ccb625ec74a1979b9d019459f7e4da186e8d0bc69c286cf3765b2409", func := "arbac/arbaclaw17.ParserEnds", spec := "parserEnds", inPlace := ["internal/abi.NoEscape", "internal/bytealg.MakeNoZero"], unfollowed := true, recurses := true, named := ["internal/strconv.uint64pow10", "math/bits.deBruijn32tab", "math/bits.deBruijn64tab"], apart := false, laid := [("math/bits.deBruijn32tab", laid_math_bits_deBruijn32tab), ("math/bits.deBruijn64tab", laid_math_bits_deBruijn64tab), ("internal/strconv.uint64pow10", laid_internal_strconv_uint64pow10)] }
def ParserEndsSaid : Prop := parserEndsRow.holds Tryz.pinned (OpenSpec.ofChange parserEndsSpec)

/-- ITS FALSE NEIGHBOUR: 'it returns false'. Refute it at one input. -/
def parserEndsWrong : ChangeSpec := { name := "parserEnds", fn := fun _ => fun
  | [d] => { results := [.lit (.bool false)], args := [d] }
  | _ => none }
def ParserEndsWrongFalsely : Prop := parserEndsRow.holds Tryz.pinned (OpenSpec.ofChange parserEndsWrong)

/-- 'arbaclaw17.ParserExprs': WHATEVER THE INPUT: true; the input reads as it did. -/
def parserExprsSpec : ChangeSpec := { name := "parserExprs", fn := fun _ => fun
  | [d] => { results := [.lit (.bool true)], args := [d] }
  | _ => none }
def parserExprsRow : OpenClaim := { program := "ytnabbnhefjfegaagreatdoor", sum := "5f9485a2ccb625ec74a1979b9d019459f7e4da186e8d0bc69c286cf3765b2409", func := "arbac/arbaclaw17.ParserExprs", spec := "parserExprs", inPlace := ["internal/abi.NoEscape", "internal/bytealg.MakeNoZero"], unfollowed := true, recurses := true, named := ["internal/strconv.uint64pow10", "math/bits.deBruijn32tab", "math/bits.deBruijn64tab"], apart := false, laid := [("math/bits.deBruijn32tab", laid_math_bits_deBruijn32tab), ("math/bits.deBruijn64tab", laid_math_bits_deBruijn64tab), ("internal/strconv.uint64pow10", laid_internal_strconv_uint64pow10)] }
def ParserExprsSaid : Prop := parserExprsRow.holds Tryz.pinned (OpenSpec.ofChange parserExprsSpec)

/-- ITS FALSE NEIGHBOUR: 'it returns false'. Refute it at one input. -/
def parserExprsWrong : ChangeSpec := { name := "parserExprs", fn := fun _ => fun
  | [d] => { results := [.lit (.bool false)], args := [d] }
  | _ => none }
def ParserExprsWrongFalsely : Prop := parserExprsRow.holds Tryz.pinned (OpenSpec.ofChange parserExprsWrong)

/-- 'arbaclaw17.ParserBack': WHATEVER THE INPUT: true; the input reads as it did. -/
def parserBackSpec : ChangeSpec := { name := "parserBack", fn := fun _ => fun
  | [d] => { results := [.lit (.bool true)], args := [d] }
  | _ => none }
def parserBackRow : OpenClaim := { program := "ytnabbnhefjfegaagreatdoor", sum := "5f9485a2ccb625ec74a1979b9d019459f7e4da186e8d0bc69c286cf3765b2409", func := "arbac/arbaclaw17.ParserBack", spec := "parserBack", inPlace := ["internal/abi.NoEscape", "internal/bytealg.MakeNoZero"], unfollowed := true, recurses := true, named := ["internal/strconv.uint64pow10", "math/bits.deBruijn32tab", "math/bits.deBruijn64tab"], apart := false, laid := [("math/bits.deBruijn32tab", laid_math_bits_deBruijn32tab), ("math/bits.deBruijn64tab", laid_math_bits_deBruijn64tab), ("internal/strconv.uint64pow10", laid_internal_strconv_uint64pow10)] }
def ParserBackSaid : Prop := parserBackRow.holds Tryz.pinned (OpenSpec.ofChange parserBackSpec)

/-- ITS FALSE NEIGHBOUR: 'it returns false'. Refute it at one input. -/
def parserBackWrong : ChangeSpec := { name := "parserBack", fn := fun _ => fun
  | [d] => { results := [.lit (.bool false)], args := [d] }
  | _ => none }
def ParserBackWrongFalsely : Prop := parserBackRow.holds Tryz.pinned (OpenSpec.ofChange parserBackWrong)

/-- 'arbaclaw17.ParserParens': WHATEVER THE INPUT: true; the input reads as it did. -/
def parserParensSpec : ChangeSpec := { name := "parserParens", fn := fun _ => fun
  | [d1, d2] => { results := [.lit (.bool true)], args := [d1, d2] }
  | _ => none }
def parserParensRow : OpenClaim := { program := "ytnabbnhefjfegaagreatdoor", sum := "5f9485a2ccb625ec74a1979b9d019459f7e4da186e8d0bc69c286cf3765b2409", func := "arbac/arbaclaw17.ParserParens", spec := "parserParens", inPlace := ["internal/abi.NoEscape", "internal/bytealg.MakeNoZero"], unfollowed := true, recurses := true, named := ["internal/strconv.uint64pow10", "math/bits.deBruijn32tab", "math/bits.deBruijn64tab"], apart := false, laid := [("math/bits.deBruijn32tab", laid_math_bits_deBruijn32tab), ("math/bits.deBruijn64tab", laid_math_bits_deBruijn64tab), ("internal/strconv.uint64pow10", laid_internal_strconv_uint64pow10)] }
def ParserParensSaid : Prop := parserParensRow.holds Tryz.pinned (OpenSpec.ofChange parserParensSpec)

/-- ITS FALSE NEIGHBOUR: 'it returns false'. Refute it at one input. -/
def parserParensWrong : ChangeSpec := { name := "parserParens", fn := fun _ => fun
  | [d1, d2] => { results := [.lit (.bool false)], args := [d1, d2] }
  | _ => none }
def ParserParensWrongFalsely : Prop := parserParensRow.holds Tryz.pinned (OpenSpec.ofChange parserParensWrong)

/-- 'arbaclaw17.ParserSources': WHATEVER THE INPUT: true; the input reads as it did. -/
def parserSourcesSpec : ChangeSpec := { name := "parserSources", fn := fun _ => fun
  | [d] => { results := [.lit (.bool true)], args := [d] }
  | _ => none }
def parserSourcesRow : OpenClaim := { program := "ytnabbnhefjfegaagreatdoor", sum := "5f9485a2ccb625ec74a1979b9d019459f7e4da186e8d0bc69c286cf3765b2409", func := "arbac/arbaclaw17.ParserSources", spec := "parserSources", inPlace := ["internal/abi.NoEscape", "internal/bytealg.MakeNoZero"], unfollowed := true, recurses := true, named := ["internal/strconv.uint64pow10", "math/bits.deBruijn32tab", "math/bits.deBruijn64tab"], apart := false, laid := [("math/bits.deBruijn32tab", laid_math_bits_deBruijn32tab), ("math/bits.deBruijn64tab", laid_math_bits_deBruijn64tab), ("internal/strconv.uint64pow10", laid_internal_strconv_uint64pow10)] }
def ParserSourcesSaid : Prop := parserSourcesRow.holds Tryz.pinned (OpenSpec.ofChange parserSourcesSpec)

/-- ITS FALSE NEIGHBOUR: 'it returns false'. Refute it at one input. -/
def parserSourcesWrong : ChangeSpec := { name := "parserSources", fn := fun _ => fun
  | [d] => { results := [.lit (.bool false)], args := [d] }
  | _ => none }
def ParserSourcesWrongFalsely : Prop := parserSourcesRow.holds Tryz.pinned (OpenSpec.ofChange parserSourcesWrong)

/-- 'arbaclaw17.ParserBlanks': WHATEVER THE INPUT: true; the input reads as it did. -/
def parserBlanksSpec : ChangeSpec := { name := "parserBlanks", fn := fun _ => fun
  | [d1, d2] => { results := [.lit (.bool true)], args := [d1, d2] }
  | _ => none }
def parserBlanksRow : OpenClaim := { program := "ytnabbnhefjfegaagreatdoor", sum := "5f9485a2ccb625ec74a1979b9d019459f7e4da186e8d0bc69c286cf3765b2409", func := "arbac/arbaclaw17.ParserBlanks", spec := "parserBlanks", inPlace := ["internal/abi.NoEscape", "internal/bytealg.MakeNoZero"], unfollowed := true, recurses := true, named := ["internal/strconv.uint64pow10", "math/bits.deBruijn32tab", "math/bits.deBruijn64tab"], apart := false, laid := [("math/bits.deBruijn32tab", laid_math_bits_deBruijn32tab), ("math/bits.deBruijn64tab", laid_math_bits_deBruijn64tab), ("internal/strconv.uint64pow10", laid_internal_strconv_uint64pow10)] }
def ParserBlanksSaid : Prop := parserBlanksRow.holds Tryz.pinned (OpenSpec.ofChange parserBlanksSpec)

/-- ITS FALSE NEIGHBOUR: 'it returns false'. Refute it at one input. -/
def parserBlanksWrong : ChangeSpec := { name := "parserBlanks", fn := fun _ => fun
  | [d1, d2] => { results := [.lit (.bool false)], args := [d1, d2] }
  | _ => none }
def ParserBlanksWrongFalsely : Prop := parserBlanksRow.holds Tryz.pinned (OpenSpec.ofChange parserBlanksWrong)

/-- 'arbaclaw17.ParserSets': WHATEVER THE INPUT: true; the input reads as it did. -/
def parserSetsSpec : ChangeSpec := { name := "parserSets", fn := fun _ => fun
  | [d] => { results := [.lit (.bool true)], args := [d] }
  | _ => none }
def parserSetsRow : OpenClaim := { program := "ytnabbnhefjfegaagreatdoor", sum := "5f9485a2ccb625ec74a1979b9d019459f7e4da186e8d0bc69c286cf3765b2409", func := "arbac/arbaclaw17.ParserSets", spec := "parserSets", inPlace := ["internal/abi.NoEscape", "internal/bytealg.MakeNoZero"], unfollowed := true, recurses := true, named := ["internal/strconv.uint64pow10", "math/bits.deBruijn32tab", "math/bits.deBruijn64tab"], apart := false, laid := [("math/bits.deBruijn32tab", laid_math_bits_deBruijn32tab), ("math/bits.deBruijn64tab", laid_math_bits_deBruijn64tab), ("internal/strconv.uint64pow10", laid_internal_strconv_uint64pow10)] }
def ParserSetsSaid : Prop := parserSetsRow.holds Tryz.pinned (OpenSpec.ofChange parserSetsSpec)

/-- ITS FALSE NEIGHBOUR: 'it returns false'. Refute it at one input. -/
def parserSetsWrong : ChangeSpec := { name := "parserSets", fn := fun _ => fun
  | [d] => { results := [.lit (.bool false)], args := [d] }
  | _ => none }
def ParserSetsWrongFalsely : Prop := parserSetsRow.holds Tryz.pinned (OpenSpec.ofChange parserSetsWrong)

/-- 'arbaclaw17.ParserJoins': WHATEVER THE INPUT: true; the input reads as it did. -/
def parserJoinsSpec : ChangeSpec := { name := "parserJoins", fn := fun _ => fun
  | [d1, d2] => { results := [.lit (.bool true)], args := [d1, d2] }
  | _ => none }
def parserJoinsRow : OpenClaim := { program := "ytnabbnhefjfegaagreatdoor", sum := "5f9485a2ccb625ec74a1979b9d019459f7e4da186e8d0bc69c286cf3765b2409", func := "arbac/arbaclaw17.ParserJoins", spec := "parserJoins", inPlace := ["internal/abi.NoEscape", "internal/bytealg.MakeNoZero"], unfollowed := true, recurses := true, named := ["internal/strconv.uint64pow10", "math/bits.deBruijn32tab", "math/bits.deBruijn64tab"], apart := false, laid := [("math/bits.deBruijn32tab", laid_math_bits_deBruijn32tab), ("math/bits.deBruijn64tab", laid_math_bits_deBruijn64tab), ("internal/strconv.uint64pow10", laid_internal_strconv_uint64pow10)] }
def ParserJoinsSaid : Prop := parserJoinsRow.holds Tryz.pinned (OpenSpec.ofChange parserJoinsSpec)

/-- ITS FALSE NEIGHBOUR: 'it returns false'. Refute it at one input. -/
def parserJoinsWrong : ChangeSpec := { name := "parserJoins", fn := fun _ => fun
  | [d1, d2] => { results := [.lit (.bool false)], args := [d1, d2] }
  | _ => none }
def ParserJoinsWrongFalsely : Prop := parserJoinsRow.holds Tryz.pinned (OpenSpec.ofChange parserJoinsWrong)

/-- 'arbaclaw17.ParserLimits': WHATEVER THE INPUT: true; the input reads as it did. -/
def parserLimitsSpec : ChangeSpec := { name := "parserLimits", fn := fun _ => fun
  | [d1, d2, d3] => { results := [.lit (.bool true)], args := [d1, d2, d3] }
  | _ => none }
def parserLimitsRow : OpenClaim := { program := "ytnabbnhefjfegaagreatdoor", sum := "5f9485a2ccb625ec74a1979b9d019459f7e4da186e8d0bc69c286cf3765b2409", func := "arbac/arbaclaw17.ParserLimits", spec := "parserLimits", inPlace := ["internal/abi.NoEscape", "internal/bytealg.MakeNoZero"], unfollowed := true, recurses := true, named := ["internal/strconv.uint64pow10", "math/bits.deBruijn32tab", "math/bits.deBruijn64tab"], apart := false, laid := [("math/bits.deBruijn32tab", laid_math_bits_deBruijn32tab), ("math/bits.deBruijn64tab", laid_math_bits_deBruijn64tab), ("internal/strconv.uint64pow10", laid_internal_strconv_uint64pow10)] }
def ParserLimitsSaid : Prop := parserLimitsRow.holds Tryz.pinned (OpenSpec.ofChange parserLimitsSpec)

/-- ITS FALSE NEIGHBOUR: 'it returns false'. Refute it at one input. -/
def parserLimitsWrong : ChangeSpec := { name := "parserLimits", fn := fun _ => fun
  | [d1, d2, d3] => { results := [.lit (.bool false)], args := [d1, d2, d3] }
  | _ => none }
def ParserLimitsWrongFalsely : Prop := parserLimitsRow.holds Tryz.pinned (OpenSpec.ofChange parserLimitsWrong)

/- THE SECOND FORM. 'bulk': how many values and letters a reading holds, each counted each time it is reached (what is shared counts as often as it is met; a slice's spare places count too). A statement '..UptoSaid' is the law's where the arguments, and the package variables that the reading takes, are together of bulk at most 1048576: NARROWER than '..Said'. Prove '..Said' where nothing that the law and all that it calls make is longer than what came in: it says more and counts as full. Else prove '..UptoSaid'. A law counts once. -/
mutual
def uptoBulk {H : Type} : DataW H → Nat
  | .lit (.string bytes) => bytes.length + 1
  | .lit _ => 1
  | .nil => 1
  | .ptr d => uptoBulk d + 1
  | .slice elems spare => uptoBulkAll elems + uptoBulkAll spare + 1
  | .agg parts => uptoBulkAll parts + 1
  | .iface _ d => uptoBulk d + 1
  | .map entries => uptoBulkEntries entries + 1
  | .held _ => 1
def uptoBulkAll {H : Type} : List (DataW H) → Nat
  | [] => 0
  | d :: r => uptoBulk d + uptoBulkAll r
def uptoBulkEntries {H : Type} : List (Lit × DataW H) → Nat
  | [] => 0
  | x :: r => uptoBulkEntry x + uptoBulkEntries r
def uptoBulkEntry {H : Type} : Lit × DataW H → Nat
  | (.string bytes, d) => bytes.length + uptoBulk d + 1
  | (_, d) => uptoBulk d + 1
 end
def uptoSmall : (H : Type) → List (DataW H) → Bool := fun _ ds => decide (uptoBulkAll ds ≤ 1048576)
def OpenSpec.upto (s : _root_.Go.ChangeSpec) : _root_.Go.OpenSpec := { _root_.Go.OpenSpec.ofChange s with cond := some uptoSmall }

/-- 'arbaclaw17.ParserEnds', WHERE WHAT IT READS IS OF BULK AT MOST 1048576: true; the input reads as it did. -/
def parserEndsUptoRow : OpenClaim := { program := "ytnabbnhefjfegaagreatdoor", sum := "5f9485a2ccb625ec74a1979b9d019459f7e4da186e8d0bc69c286cf3765b2409", func := "arbac/arbaclaw17.ParserEnds", spec := "parserEnds", inPlace := ["internal/abi.NoEscape", "internal/bytealg.MakeNoZero"], unfollowed := true, recurses := true, named := ["internal/strconv.uint64pow10", "math/bits.deBruijn32tab", "math/bits.deBruijn64tab"], apart := false, laid := [("math/bits.deBruijn32tab", laid_math_bits_deBruijn32tab), ("math/bits.deBruijn64tab", laid_math_bits_deBruijn64tab), ("internal/strconv.uint64pow10", laid_internal_strconv_uint64pow10)], narrowed := true }
def ParserEndsUptoSaid : Prop := parserEndsUptoRow.holds Tryz.pinned (OpenSpec.upto parserEndsSpec)

/-- 'arbaclaw17.ParserExprs', WHERE WHAT IT READS IS OF BULK AT MOST 1048576: true; the input reads as it did. -/
def parserExprsUptoRow : OpenClaim := { program := "ytnabbnhefjfegaagreatdoor", sum := "5f9485a2ccb625ec74a1979b9d019459f7e4da186e8d0bc69c286cf3765b2409", func := "arbac/arbaclaw17.ParserExprs", spec := "parserExprs", inPlace := ["internal/abi.NoEscape", "internal/bytealg.MakeNoZero"], unfollowed := true, recurses := true, named := ["internal/strconv.uint64pow10", "math/bits.deBruijn32tab", "math/bits.deBruijn64tab"], apart := false, laid := [("math/bits.deBruijn32tab", laid_math_bits_deBruijn32tab), ("math/bits.deBruijn64tab", laid_math_bits_deBruijn64tab), ("internal/strconv.uint64pow10", laid_internal_strconv_uint64pow10)], narrowed := true }
def ParserExprsUptoSaid : Prop := parserExprsUptoRow.holds Tryz.pinned (OpenSpec.upto parserExprsSpec)

/-- 'arbaclaw17.ParserBack', WHERE WHAT IT READS IS OF BULK AT MOST 1048576: true; the input reads as it did. -/
def parserBackUptoRow : OpenClaim := { program := "ytnabbnhefjfegaagreatdoor", sum := "5f9485a2ccb625ec74a1979b9d019459f7e4da186e8d0bc69c286cf3765b2409", func := "arbac/arbaclaw17.ParserBack", spec := "parserBack", inPlace := ["internal/abi.NoEscape", "internal/bytealg.MakeNoZero"], unfollowed := true, recurses := true, named := ["internal/strconv.uint64pow10", "math/bits.deBruijn32tab", "math/bits.deBruijn64tab"], apart := false, laid := [("math/bits.deBruijn32tab", laid_math_bits_deBruijn32tab), ("math/bits.deBruijn64tab", laid_math_bits_deBruijn64tab), ("internal/strconv.uint64pow10", laid_internal_strconv_uint64pow10)], narrowed := true }
def ParserBackUptoSaid : Prop := parserBackUptoRow.holds Tryz.pinned (OpenSpec.upto parserBackSpec)

/-- 'arbaclaw17.ParserParens', WHERE WHAT IT READS IS OF BULK AT MOST 1048576: true; the input reads as it did. -/
def parserParensUptoRow : OpenClaim := { program := "ytnabbnhefjfegaagreatdoor", sum := "5f9485a2ccb625ec74a1979b9d019459f7e4da186e8d0bc69c286cf3765b2409", func := "arbac/arbaclaw17.ParserParens", spec := "parserParens", inPlace := ["internal/abi.NoEscape", "internal/bytealg.MakeNoZero"], unfollowed := true, recurses := true, named := ["internal/strconv.uint64pow10", "math/bits.deBruijn32tab", "math/bits.deBruijn64tab"], apart := false, laid := [("math/bits.deBruijn32tab", laid_math_bits_deBruijn32tab), ("math/bits.deBruijn64tab", laid_math_bits_deBruijn64tab), ("internal/strconv.uint64pow10", laid_internal_strconv_uint64pow10)], narrowed := true }
def ParserParensUptoSaid : Prop := parserParensUptoRow.holds Tryz.pinned (OpenSpec.upto parserParensSpec)

/-- 'arbaclaw17.ParserSources', WHERE WHAT IT READS IS OF BULK AT MOST 1048576: true; the input reads as it did. -/
def parserSourcesUptoRow : OpenClaim := { program := "ytnabbnhefjfegaagreatdoor", sum := "5f9485a2ccb625ec74a1979b9d019459f7e4da186e8d0bc69c286cf3765b2409", func := "arbac/arbaclaw17.ParserSources", spec := "parserSources", inPlace := ["internal/abi.NoEscape", "internal/bytealg.MakeNoZero"], unfollowed := true, recurses := true, named := ["internal/strconv.uint64pow10", "math/bits.deBruijn32tab", "math/bits.deBruijn64tab"], apart := false, laid := [("math/bits.deBruijn32tab", laid_math_bits_deBruijn32tab), ("math/bits.deBruijn64tab", laid_math_bits_deBruijn64tab), ("internal/strconv.uint64pow10", laid_internal_strconv_uint64pow10)], narrowed := true }
def ParserSourcesUptoSaid : Prop := parserSourcesUptoRow.holds Tryz.pinned (OpenSpec.upto parserSourcesSpec)

/-- 'arbaclaw17.ParserBlanks', WHERE WHAT IT READS IS OF BULK AT MOST 1048576: true; the input reads as it did. -/
def parserBlanksUptoRow : OpenClaim := { program := "ytnabbnhefjfegaagreatdoor", sum := "5f9485a2ccb625ec74a1979b9d019459f7e4da186e8d0bc69c286cf3765b2409", func := "arbac/arbaclaw17.ParserBlanks", spec := "parserBlanks", inPlace := ["internal/abi.NoEscape", "internal/bytealg.MakeNoZero"], unfollowed := true, recurses := true, named := ["internal/strconv.uint64pow10", "math/bits.deBruijn32tab", "math/bits.deBruijn64tab"], apart := false, laid := [("math/bits.deBruijn32tab", laid_math_bits_deBruijn32tab), ("math/bits.deBruijn64tab", laid_math_bits_deBruijn64tab), ("internal/strconv.uint64pow10", laid_internal_strconv_uint64pow10)], narrowed := true }
def ParserBlanksUptoSaid : Prop := parserBlanksUptoRow.holds Tryz.pinned (OpenSpec.upto parserBlanksSpec)

/-- 'arbaclaw17.ParserSets', WHERE WHAT IT READS IS OF BULK AT MOST 1048576: true; the input reads as it did. -/
def parserSetsUptoRow : OpenClaim := { program := "ytnabbnhefjfegaagreatdoor", sum := "5f9485a2ccb625ec74a1979b9d019459f7e4da186e8d0bc69c286cf3765b2409", func := "arbac/arbaclaw17.ParserSets", spec := "parserSets", inPlace := ["internal/abi.NoEscape", "internal/bytealg.MakeNoZero"], unfollowed := true, recurses := true, named := ["internal/strconv.uint64pow10", "math/bits.deBruijn32tab", "math/bits.deBruijn64tab"], apart := false, laid := [("math/bits.deBruijn32tab", laid_math_bits_deBruijn32tab), ("math/bits.deBruijn64tab", laid_math_bits_deBruijn64tab), ("internal/strconv.uint64pow10", laid_internal_strconv_uint64pow10)], narrowed := true }
def ParserSetsUptoSaid : Prop := parserSetsUptoRow.holds Tryz.pinned (OpenSpec.upto parserSetsSpec)

/-- 'arbaclaw17.ParserJoins', WHERE WHAT IT READS IS OF BULK AT MOST 1048576: true; the input reads as it did. -/
def parserJoinsUptoRow : OpenClaim := { program := "ytnabbnhefjfegaagreatdoor", sum := "5f9485a2ccb625ec74a1979b9d019459f7e4da186e8d0bc69c286cf3765b2409", func := "arbac/arbaclaw17.ParserJoins", spec := "parserJoins", inPlace := ["internal/abi.NoEscape", "internal/bytealg.MakeNoZero"], unfollowed := true, recurses := true, named := ["internal/strconv.uint64pow10", "math/bits.deBruijn32tab", "math/bits.deBruijn64tab"], apart := false, laid := [("math/bits.deBruijn32tab", laid_math_bits_deBruijn32tab), ("math/bits.deBruijn64tab", laid_math_bits_deBruijn64tab), ("internal/strconv.uint64pow10", laid_internal_strconv_uint64pow10)], narrowed := true }
def ParserJoinsUptoSaid : Prop := parserJoinsUptoRow.holds Tryz.pinned (OpenSpec.upto parserJoinsSpec)

/-- 'arbaclaw17.ParserLimits', WHERE WHAT IT READS IS OF BULK AT MOST 1048576: true; the input reads as it did. -/
def parserLimitsUptoRow : OpenClaim := { program := "ytnabbnhefjfegaagreatdoor", sum := "5f9485a2ccb625ec74a1979b9d019459f7e4da186e8d0bc69c286cf3765b2409", func := "arbac/arbaclaw17.ParserLimits", spec := "parserLimits", inPlace := ["internal/abi.NoEscape", "internal/bytealg.MakeNoZero"], unfollowed := true, recurses := true, named := ["internal/strconv.uint64pow10", "math/bits.deBruijn32tab", "math/bits.deBruijn64tab"], apart := false, laid := [("math/bits.deBruijn32tab", laid_math_bits_deBruijn32tab), ("math/bits.deBruijn64tab", laid_math_bits_deBruijn64tab), ("internal/strconv.uint64pow10", laid_internal_strconv_uint64pow10)], narrowed := true }
def ParserLimitsUptoSaid : Prop := parserLimitsUptoRow.holds Tryz.pinned (OpenSpec.upto parserLimitsSpec)

end Rows
end Go.Proofs.YtnabbnhefjfegaaGreatDoor
