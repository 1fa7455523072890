/-
  NARROWER THAN 'FOR EVERY INPUT', by the rows' own cells (each row's printed sentence says how): LatticeLimits: laid · LatticeJoins: laid · LatticeLaws: laid · LatticeCovers: laid · LatticeFinds: laid · LatticeNil: laid · LatticeTurns: laid · LatticeEnds: laid · LatticeChecks: laid · LatticeConcepts: laid.
  DERIVED. THE GIVEN ROWS OF THIS SEAT. 10 by the template 'for every input the law returns true; each argument reads behind the call as it read before'; 0 by the template 'total and deterministic' (their statements: YtoheffglppbcbaaDoorTotals.lean).
  GIVEN WITH THE SEED: the statements are not yours to turn. If you find one false, say at which input.
  Laid BY PROGRAM, IN A SANDBOX (cutbox-rows.mjs): the forced cells as the released guide's own fill.sh prints them over the translation 575f60ddaf6c8bc5… (all of the seat's roots in one cut). By AI agents, Wed Nov 11 2026. No macro, syntax, notation, axiom, sorry.
-/
import Derived.Test.YtoheffglppbcbaaDoorChecked
import GoSem.Claim
import GoSem.ClaimJoined
import GoSem.ClaimMapViews
import Derived.JoinedTies
import Derived.KernelRfl
namespace Go.Proofs.YtoheffglppbcbaaDoor
/- THE CELL 'sum', in the pinned program and in every row, IS THE sha256 OF THE DUMP (.gsa) THAT YtoheffglppbcbaaDoorProg.lean LOADS. Nothing in Lean hashes anything: it is a label: what it is worth is what the hold of that sum in a sandbox is worth. -/
noncomputable def Tryd.pinned : Pinned := { name := "ytoheffglppbcbaadoor", sum := "575f60ddaf6c8bc5670ba65df76e5d5050adac8b8d7d8f04661b4f3e646e50e0", checked := Tryd.checked }
namespace Rows
def none {H : Type} : Left H := { results := [], args := [] }

/- WHAT THE LISTED PACKAGE-LEVEL VARIABLES READ AS WHEN THE CALL BEGINS. Each datum BY PROGRAM (the guide's laid-datum.mjs) off the statement by which the dump's own 'gosem.cut.vars' lays the variable. In a bare row this is a premise. The card (YtoheffglppbcbaaDoorCards.lean) ties it to the program's text. -/
def laid_math_bits_deBruijn32tab {H : Type} : DataW H := .agg [.lit (.int .u8 0), .lit (.int .u8 1), .lit (.int .u8 28), .lit (.int .u8 2), .lit (.int .u8 29), .lit (.int .u8 14), .lit (.int .u8 24), .lit (.int .u8 3), .lit (.int .u8 30), .lit (.int .u8 22), .lit (.int .u8 20), .lit (.int .u8 15), .lit (.int .u8 25), .lit (.int .u8 17), .lit (.int .u8 4), .lit (.int .u8 8), .lit (.int .u8 31), .lit (.int .u8 27), .lit (.int .u8 13), .lit (.int .u8 23), .lit (.int .u8 21), .lit (.int .u8 19), .lit (.int .u8 16), .lit (.int .u8 7), .lit (.int .u8 26), .lit (.int .u8 12), .lit (.int .u8 18), .lit (.int .u8 6), .lit (.int .u8 11), .lit (.int .u8 5), .lit (.int .u8 10), .lit (.int .u8 9)]
def laid_math_bits_deBruijn64tab {H : Type} : DataW H := .agg [.lit (.int .u8 0), .lit (.int .u8 1), .lit (.int .u8 56), .lit (.int .u8 2), .lit (.int .u8 57), .lit (.int .u8 49), .lit (.int .u8 28), .lit (.int .u8 3), .lit (.int .u8 61), .lit (.int .u8 58), .lit (.int .u8 42), .lit (.int .u8 50), .lit (.int .u8 38), .lit (.int .u8 29), .lit (.int .u8 17), .lit (.int .u8 4), .lit (.int .u8 62), .lit (.int .u8 47), .lit (.int .u8 59), .lit (.int .u8 36), .lit (.int .u8 45), .lit (.int .u8 43), .lit (.int .u8 51), .lit (.int .u8 22), .lit (.int .u8 53), .lit (.int .u8 39), .lit (.int .u8 33), .lit (.int .u8 30), .lit (.int .u8 24), .lit (.int .u8 18), .lit (.int .u8 12), .lit (.int .u8 5), .lit (.int .u8 63), .lit (.int .u8 55), .lit (.int .u8 48), .lit (.int .u8 27), .lit (.int .u8 60), .lit (.int .u8 41), .lit (.int .u8 37), .lit (.int .u8 16), .lit (.int .u8 46), .lit (.int .u8 35), .lit (.int .u8 44), .lit (.int .u8 21), .lit (.int .u8 52), .lit (.int .u8 32), .lit (.int .u8 23), .lit (.int .u8 11), .lit (.int .u8 54), .lit (.int .u8 26), .lit (.int .u8 40), .lit (.int .u8 15), .lit (.int .u8 34), .lit (.int .u8 20), .lit (.int .u8 31), .lit (.int .u8 10), .lit (.int .u8 25), .lit (.int .u8 14), .lit (.int .u8 19), .lit (.int .u8 9), .lit (.int .u8 13), .lit (.int .u8 8), .lit (.int .u8 7), .lit (.int .u8 6)]
def laid_internal_strconv_uint64pow10 {H : Type} : DataW H := .agg [.lit (.int .u64 1), .lit (.int .u64 10), .lit (.int .u64 100), .lit (.int .u64 1000), .lit (.int .u64 10000), .lit (.int .u64 100000), .lit (.int .u64 1000000), .lit (.int .u64 10000000), .lit (.int .u64 100000000), .lit (.int .u64 1000000000), .lit (.int .u64 10000000000), .lit (.int .u64 100000000000), .lit (.int .u64 1000000000000), .lit (.int .u64 10000000000000), .lit (.int .u64 100000000000000), .lit (.int .u64 1000000000000000), .lit (.int .u64 10000000000000000), .lit (.int .u64 100000000000000000), .lit (.int .u64 1000000000000000000), .lit (.int .u64 10000000000000000000)]

/-- 'arbaclaw46.LatticeLimits': WHATEVER THE INPUT: true; the input reads as it did. -/
def latticeLimitsSpec : ChangeSpec := { name := "latticeLimits", fn := fun _ => fun
  | [d1, d2] => { results := [.lit (.bool true)], args := [d1, d2] }
  | _ => none }
def latticeLimitsRow : OpenClaim := { program := "ytoheffglppbcbaadoor", sum := "575f60ddaf6c8bc5670ba65df76e5d5050adac8b8d7d8f04661b4f3e646e50e0", func := "arbac/arbaclaw46.LatticeLimits", spec := "latticeLimits", inPlace := ["internal/abi.NoEscape"], unfollowed := true, recurses := true, named := ["math/bits.deBruijn64tab", "internal/strconv.uint64pow10", "math/bits.deBruijn32tab"], apart := false, laid := [("math/bits.deBruijn32tab", laid_math_bits_deBruijn32tab), ("math/bits.deBruijn64tab", laid_math_bits_deBruijn64tab), ("internal/strconv.uint64pow10", laid_internal_strconv_uint64pow10)] }
def LatticeLimitsSaid : Prop := latticeLimitsRow.holds Tryd.pinned (OpenSpec.ofChange latticeLimitsSpec)

/-- ITS FALSE NEIGHBOUR: 'it returns false'. Refute it at one input. -/
def latticeLimitsWrong : ChangeSpec := { name := "latticeLimits", fn := fun _ => fun
  | [d1, d2] => { results := [.lit (.bool false)], args := [d1, d2] }
  | _ => none }
def LatticeLimitsWrongFalsely : Prop := latticeLimitsRow.holds Tryd.pinned (OpenSpec.ofChange latticeLimitsWrong)

/-- 'arbaclaw46.LatticeJoins': WHATEVER THE INPUT: true; the input reads as it did. -/
def latticeJoinsSpec : ChangeSpec := { name := "latticeJoins", fn := fun _ => fun
  | [d1, d2, d3] => { results := [.lit (.bool true)], args := [d1, d2, d3] }
  | _ => none }
def latticeJoinsRow : OpenClaim := { program := "ytoheffglppbcbaadoor", sum := "575f60ddaf6c8bc5670ba65df76e5d5050adac8b8d7d8f04661b4f3e646e50e0", func := "arbac/arbaclaw46.LatticeJoins", spec := "latticeJoins", inPlace := ["internal/abi.NoEscape"], unfollowed := true, recurses := true, named := ["math/bits.deBruijn64tab", "internal/strconv.uint64pow10", "math/bits.deBruijn32tab"], apart := false, laid := [("math/bits.deBruijn32tab", laid_math_bits_deBruijn32tab), ("math/bits.deBruijn64tab", laid_math_bits_deBruijn64tab), ("internal/strconv.uint64pow10", laid_internal_strconv_uint64pow10)] }
def LatticeJoinsSaid : Prop := latticeJoinsRow.holds Tryd.pinned (OpenSpec.ofChange latticeJoinsSpec)

/-- ITS FALSE NEIGHBOUR: 'it returns false'. Refute it at one input. -/
def latticeJoinsWrong : ChangeSpec := { name := "latticeJoins", fn := fun _ => fun
  | [d1, d2, d3] => { results := [.lit (.bool false)], args := [d1, d2, d3] }
  | _ => none }
def LatticeJoinsWrongFalsely : Prop := latticeJoinsRow.holds Tryd.pinned (OpenSpec.ofChange latticeJoinsWrong)

/-- 'arbaclaw46.LatticeLaws': WHATEVER THE INPUT: true; the input reads as it did. -/
def latticeLawsSpec : ChangeSpec := { name := "latticeLaws", fn := fun _ => fun
  | [d1, d2] => { results := [.lit (.bool true)], args := [d1, d2] }
  | _ => none }
def latticeLawsRow : OpenClaim := { program := "ytoheffglppbcbaadoor", sum := "575f60ddaf6c8bc5670ba65df76e5d5050adac8b8d7d8f04661b4f3e646e50e0", func := "arbac/arbaclaw46.LatticeLaws", spec := "latticeLaws", inPlace := ["internal/abi.NoEscape"], unfollowed := true, recurses := true, named := ["math/bits.deBruijn64tab", "internal/strconv.uint64pow10", "math/bits.deBruijn32tab"], apart := false, laid := [("math/bits.deBruijn32tab", laid_math_bits_deBruijn32tab), ("math/bits.deBruijn64tab", laid_math_bits_deBruijn64tab), ("internal/strconv.uint64pow10", laid_internal_strconv_uint64pow10)] }
def LatticeLawsSaid : Prop := latticeLawsRow.holds Tryd.pinned (OpenSpec.ofChange latticeLawsSpec)

/-- ITS FALSE NEIGHBOUR: 'it returns false'. Refute it at one input. -/
def latticeLawsWrong : ChangeSpec := { name := "latticeLaws", fn := fun _ => fun
  | [d1, d2] => { results := [.lit (.bool false)], args := [d1, d2] }
  | _ => none }
def LatticeLawsWrongFalsely : Prop := latticeLawsRow.holds Tryd.pinned (OpenSpec.ofChange latticeLawsWrong)

/-- 'arbaclaw46.LatticeCovers': WHATEVER THE INPUT: true; the input reads as it did. -/
def latticeCoversSpec : ChangeSpec := { name := "latticeCovers", fn := fun _ => fun
  | [d] => { results := [.lit (.bool true)], args := [d] }
  | _ => none }
def latticeCoversRow : OpenClaim := { program := "ytoheffglppbcbaadoor", sum := "575f60ddaf6c8bc5670ba65df76e5d5050adac8b8d7d8f04661b4f3e646e50e0", func := "arbac/arbaclaw46.LatticeCovers", spec := "latticeCovers", inPlace := ["internal/abi.NoEscape"], unfollowed := true, recurses := true, named := ["math/bits.deBruijn64tab", "internal/strconv.uint64pow10", "math/bits.deBruijn32tab"], apart := false, laid := [("math/bits.deBruijn32tab", laid_math_bits_deBruijn32tab), ("math/bits.deBruijn64tab", laid_math_bits_deBruijn64tab), ("internal/strconv.uint64pow10", laid_internal_strconv_uint64pow10)] }
def LatticeCoversSaid : Prop := latticeCoversRow.holds Tryd.pinned (OpenSpec.ofChange latticeCoversSpec)

/-- ITS FALSE NEIGHBOUR: 'it returns false'. Refute it at one input. -/
def latticeCoversWrong : ChangeSpec := { name := "latticeCovers", fn := fun _ => fun
  | [d] => { results := [.lit (.bool false)], args := [d] }
  | _ => none }
def LatticeCoversWrongFalsely : Prop := latticeCoversRow.holds Tryd.pinned (OpenSpec.ofChange latticeCoversWrong)

/-- 'arbaclaw46.LatticeFinds': WHATEVER THE INPUT: true; the input reads as it did. -/
def latticeFindsSpec : ChangeSpec := { name := "latticeFinds", fn := fun _ => fun
  | [d1, d2, d3] => { results := [.lit (.bool true)], args := [d1, d2, d3] }
  | _ => none }
def latticeFindsRow : OpenClaim := { program := "ytoheffglppbcbaadoor", sum := "575f60ddaf6c8bc5670ba65df76e5d5050adac8b8d7d8f04661b4f3e646e50e0", func := "arbac/arbaclaw46.LatticeFinds", spec := "latticeFinds", inPlace := ["internal/abi.NoEscape"], unfollowed := true, recurses := true, named := ["math/bits.deBruijn64tab", "internal/strconv.uint64pow10", "math/bits.deBruijn32tab"], apart := false, laid := [("math/bits.deBruijn32tab", laid_math_bits_deBruijn32tab), ("math/bits.deBruijn64tab", laid_math_bits_deBruijn64tab), ("internal/strconv.uint64pow10", laid_internal_strconv_uint64pow10)] }
def LatticeFindsSaid : Prop := latticeFindsRow.holds Tryd.pinned (OpenSpec.ofChange latticeFindsSpec)

/-- ITS FALSE NEIGHBOUR: 'it returns false'. Refute it at one input. -/
def latticeFindsWrong : ChangeSpec := { name := "latticeFinds", fn := fun _ => fun
  | [d1, d2, d3] => { results := [.lit (.bool false)], args := [d1, d2, d3] }
  | _ => none }
def LatticeFindsWrongFalsely : Prop := latticeFindsRow.holds Tryd.pinned (OpenSpec.ofChange latticeFindsWrong)

/-- 'arbaclaw46.LatticeNil': WHATEVER THE INPUT: true; the input reads as it did. -/
def latticeNilSpec : ChangeSpec := { name := "latticeNil", fn := fun _ => fun
  | [d1, d2, d3] => { results := [.lit (.bool true)], args := [d1, d2, d3] }
  | _ => none }
def latticeNilRow : OpenClaim := { program := "ytoheffglppbcbaadoor", sum := "575f60ddaf6c8bc5670ba65df76e5d5050adac8b8d7d8f04661b4f3e646e50e0", func := "arbac/arbaclaw46.LatticeNil", spec := "latticeNil", inPlace := ["internal/abi.NoEscape"], unfollowed := true, recurses := true, named := ["math/bits.deBruijn64tab", "internal/strconv.uint64pow10", "math/bits.deBruijn32tab"], apart := false, laid := [("math/bits.deBruijn32tab", laid_math_bits_deBruijn32tab), ("math/bits.deBruijn64tab", laid_math_bits_deBruijn64tab), ("internal/strconv.uint64pow10", laid_internal_strconv_uint64pow10)] }
def LatticeNilSaid : Prop := latticeNilRow.holds Tryd.pinned (OpenSpec.ofChange latticeNilSpec)

/-- ITS FALSE NEIGHBOUR: 'it returns false'. Refute it at one input. -/
def latticeNilWrong : ChangeSpec := { name := "latticeNil", fn := fun _ => fun
  | [d1, d2, d3] => { results := [.lit (.bool false)], args := [d1, d2, d3] }
  | _ => none }
def LatticeNilWrongFalsely : Prop := latticeNilRow.holds Tryd.pinned (OpenSpec.ofChange latticeNilWrong)

/-- 'arbaclaw46.LatticeTurns': WHATEVER THE INPUT: true; the input reads as it did. -/
def latticeTurnsSpec : ChangeSpec := { name := "latticeTurns", fn := fun _ => fun
  | [d] => { results := [.lit (.bool true)], args := [d] }
  | _ => none }
def latticeTurnsRow : OpenClaim := { program := "ytoheffglppbcbaadoor", sum := "575f60ddaf6c8bc5670ba65df76e5d5050adac8b8d7d8f04661b4f3e646e50e0", func := "arbac/arbaclaw46.LatticeTurns", spec := "latticeTurns", inPlace := ["internal/abi.NoEscape"], unfollowed := true, recurses := true, named := ["math/bits.deBruijn64tab", "internal/strconv.uint64pow10", "math/bits.deBruijn32tab"], apart := false, laid := [("math/bits.deBruijn32tab", laid_math_bits_deBruijn32tab), ("math/bits.deBruijn64tab", laid_math_bits_deBruijn64tab), ("internal/strconv.uint64pow10", laid_internal_strconv_uint64pow10)] }
def LatticeTurnsSaid : Prop := latticeTurnsRow.holds Tryd.pinned (OpenSpec.ofChange latticeTurnsSpec)

/-- ITS FALSE NEIGHBOUR: 'it returns false'. Refute it at one input. -/
def latticeTurnsWrong : ChangeSpec := { name := "latticeTurns", fn := fun _ => fun
  | [d] => { results := [.lit (.bool false)], args := [d] }
  | _ => none }
def LatticeTurnsWrongFalsely : Prop := latticeTurnsRow.holds Tryd.pinned (OpenSpec.ofChange latticeTurnsWrong)

/-- 'arbaclaw46.LatticeEnds': WHATEVER THE INPUT: true; the input reads as it did. -/
def latticeEndsSpec : ChangeSpec := { name := "latticeEnds", fn := fun _ => fun
  | [d1, d2, d3] => { results := [.lit (.bool true)], args := [d1, d2, d3] }
  | _ => none }
def latticeEndsRow : OpenClaim := { program := "ytoheffglppbcbaadoor", sum := "575f60ddaf6c8bc5670ba65df76e5d5050adac8b8d7d8f04661b4f3e646e50e0", func := "arbac/arbaclaw46.LatticeEnds", spec := "latticeEnds", inPlace := ["internal/abi.NoEscape"], unfollowed := true, recurses := true, named := ["math/bits.deBruijn64tab", "internal/strconv.uint64pow10", "math/bits.deBruijn32tab"], apart := false, laid := [("math/bits.deBruijn32tab", laid_math_bits_deBruijn32tab), ("math/bits.deBruijn64tab", laid_math_bits_deBruijn64tab), ("internal/strconv.uint64pow10", laid_internal_strconv_uint64pow10)] }
def LatticeEndsSaid : Prop := latticeEndsRow.holds Tryd.pinned (OpenSpec.ofChange latticeEndsSpec)

/-- ITS FALSE NEIGHBOUR: 'it returns false'. Refute it at one input. -/
def latticeEndsWrong : ChangeSpec := { name := "latticeEnds", fn := fun _ => fun
  | [d1, d2, d3] => { results := [.lit (.bool false)], args := [d1, d2, d3] }
  | _ => none }
def LatticeEndsWrongFalsely : Prop := latticeEndsRow.holds Tryd.pinned (OpenSpec.ofChange latticeEndsWrong)

/-- 'arbaclaw46.LatticeChecks': WHATEVER THE INPUT: true; the input reads as it did. -/
def latticeChecksSpec : ChangeSpec := { name := "latticeChecks", fn := fun _ => fun
  | [d1, d2] => { results := [.lit (.bool true)], args := [d1, d2] }
  | _ => none }
def latticeChecksRow : OpenClaim := { program := "ytoheffglppbcbaadoor", sum := "575f60ddaf6c8bc5670ba65df76e5d5050adac8b8d7d8f04661b4f3e646e50e0", func := "arbac/arbaclaw46.LatticeChecks", spec := "latticeChecks", inPlace := ["internal/abi.NoEscape"], unfollowed := true, recurses := true, named := ["math/bits.deBruijn64tab", "internal/strconv.uint64pow10", "math/bits.deBruijn32tab"], apart := false, laid := [("math/bits.deBruijn32tab", laid_math_bits_deBruijn32tab), ("math/bits.deBruijn64tab", laid_math_bits_deBruijn64tab), ("internal/strconv.uint64pow10", laid_internal_strconv_uint64pow10)] }
def LatticeChecksSaid : Prop := latticeChecksRow.holds Tryd.pinned (OpenSpec.ofChange latticeChecksSpec)

/-- ITS FALSE NEIGHBOUR: 'it returns false'. Refute it at one input. -/
def latticeChecksWrong : ChangeSpec := { name := "latticeChecks", fn := fun _ => fun
  | [d1, d2] => { results := [.lit (.bool false)], args := [d1, d2] }
  | _ => none }
def LatticeChecksWrongFalsely : Prop := latticeChecksRow.holds Tryd.pinned (OpenSpec.ofChange latticeChecksWrong)

/-- 'arbaclaw46.LatticeConcepts': WHATEVER THE INPUT: true; the input reads as it did. -/
def latticeConceptsSpec : ChangeSpec := { name := "latticeConcepts", fn := fun _ => fun
  | [d] => { results := [.lit (.bool true)], args := [d] }
  | _ => none }
def latticeConceptsRow : OpenClaim := { program := "ytoheffglppbcbaadoor", sum := "575f60ddaf6c8bc5670ba65df76e5d5050adac8b8d7d8f04661b4f3e646e50e0", func := "arbac/arbaclaw46.LatticeConcepts", spec := "latticeConcepts", inPlace := ["internal/abi.NoEscape"], unfollowed := true, recurses := true, named := ["math/bits.deBruijn64tab", "internal/strconv.uint64pow10", "math/bits.deBruijn32tab"], apart := false, laid := [("math/bits.deBruijn32tab", laid_math_bits_deBruijn32tab), ("math/bits.deBruijn64tab", laid_math_bits_deBruijn64tab), ("internal/strconv.uint64pow10", laid_internal_strconv_uint64pow10)] }
def LatticeConceptsSaid : Prop := latticeConceptsRow.holds Tryd.pinned (OpenSpec.ofChange latticeConceptsSpec)

/-- ITS FALSE NEIGHBOUR: 'it returns false'. Refute it at one input. -/
def latticeConceptsWrong : ChangeSpec := { name := "latticeConcepts", fn := fun _ => fun
  | [d] => { results := [.lit (.bool false)], args := [d] }
  | _ => none }
def LatticeConceptsWrongFalsely : Prop := latticeConceptsRow.holds Tryd.pinned (OpenSpec.ofChange latticeConceptsWrong)

/- THE SECOND FORM. 'bulk': how many values and letters a reading holds, each counted each time it is reached (what is shared counts as often as it is met; a slice's spare places count too). A statement '..UptoSaid' is the law's where the arguments, and the package variables that the reading takes, are together of bulk at most 1048576: NARROWER than '..Said'. Prove '..Said' where nothing that the law and all that it calls make is longer than what came in: it says more and counts as full. Else prove '..UptoSaid'. A law counts once. -/
mutual
def uptoBulk {H : Type} : DataW H → Nat
  | .lit (.string bytes) => bytes.length + 1
  | .lit _ => 1
  | .nil => 1
  | .ptr d => uptoBulk d + 1
  | .slice elems spare => uptoBulkAll elems + uptoBulkAll spare + 1
  | .agg parts => uptoBulkAll parts + 1
  | .iface _ d => uptoBulk d + 1
  | .map entries => uptoBulkEntries entries + 1
  | .held _ => 1
def uptoBulkAll {H : Type} : List (DataW H) → Nat
  | [] => 0
  | d :: r => uptoBulk d + uptoBulkAll r
def uptoBulkEntries {H : Type} : List (Lit × DataW H) → Nat
  | [] => 0
  | x :: r => uptoBulkEntry x + uptoBulkEntries r
def uptoBulkEntry {H : Type} : Lit × DataW H → Nat
  | (.string bytes, d) => bytes.length + uptoBulk d + 1
  | (_, d) => uptoBulk d + 1
 end
def uptoSmall : (H : Type) → List (DataW H) → Bool := fun _ ds => decide (uptoBulkAll ds ≤ 1048576)
def OpenSpec.upto (s : _root_.Go.ChangeSpec) : _root_.Go.OpenSpec := { _root_.Go.OpenSpec.ofChange s with cond := some uptoSmall }

/-- 'arbaclaw46.LatticeLimits', WHERE WHAT IT READS IS OF BULK AT MOST 1048576: true; the input reads as it did. -/
def latticeLimitsUptoRow : OpenClaim := { program := "ytoheffglppbcbaadoor", sum := "575f60ddaf6c8bc5670ba65df76e5d5050adac8b8d7d8f04661b4f3e646e50e0", func := "arbac/arbaclaw46.LatticeLimits", spec := "latticeLimits", inPlace := ["internal/abi.NoEscape"], unfollowed := true, recurses := true, named := ["math/bits.deBruijn64tab", "internal/strconv.uint64pow10", "math/bits.deBruijn32tab"], apart := false, laid := [("math/bits.deBruijn32tab", laid_math_bits_deBruijn32tab), ("math/bits.deBruijn64tab", laid_math_bits_deBruijn64tab), ("internal/strconv.uint64pow10", laid_internal_strconv_uint64pow10)], narrowed := true }
def LatticeLimitsUptoSaid : Prop := latticeLimitsUptoRow.holds Tryd.pinned (OpenSpec.upto latticeLimitsSpec)

/-- 'arbaclaw46.LatticeJoins', WHERE WHAT IT READS IS OF BULK AT MOST 1048576: true; the input reads as it did. -/
def latticeJoinsUptoRow : OpenClaim := { program := "ytoheffglppbcbaadoor", sum := "575f60ddaf6c8bc5670ba65df76e5d5050adac8b8d7d8f04661b4f3e646e50e0", func := "arbac/arbaclaw46.LatticeJoins", spec := "latticeJoins", inPlace := ["internal/abi.NoEscape"], unfollowed := true, recurses := true, named := ["math/bits.deBruijn64tab", "internal/strconv.uint64pow10", "math/bits.deBruijn32tab"], apart := false, laid := [("math/bits.deBruijn32tab", laid_math_bits_deBruijn32tab), ("math/bits.deBruijn64tab", laid_math_bits_deBruijn64tab), ("internal/strconv.uint64pow10", laid_internal_strconv_uint64pow10)], narrowed := true }
def LatticeJoinsUptoSaid : Prop := latticeJoinsUptoRow.holds Tryd.pinned (OpenSpec.upto latticeJoinsSpec)

/-- 'arbaclaw46.LatticeLaws', WHERE WHAT IT READS IS OF BULK AT MOST 1048576: true; the input reads as it did. -/
def latticeLawsUptoRow : OpenClaim := { program := "ytoheffglppbcbaadoor", sum := "575f60ddaf6c8bc5670ba65df76e5d5050adac8b8d7d8f04661b4f3e646e50e0", func := "arbac/arbaclaw46.LatticeLaws", spec := "latticeLaws", inPlace := ["internal/abi.NoEscape"], unfollowed := true, recurses := true, named := ["math/bits.deBruijn64tab", "internal/strconv.uint64pow10", "math/bits.deBruijn32tab"], apart := false, laid := [("math/bits.deBruijn32tab", laid_math_bits_deBruijn32tab), ("math/bits.deBruijn64tab", laid_math_bits_deBruijn64tab), ("internal/strconv.uint64pow10", laid_internal_strconv_uint64pow10)], narrowed := true }
def LatticeLawsUptoSaid : Prop := latticeLawsUptoRow.holds Tryd.pinned (OpenSpec.upto latticeLawsSpec)

/-- 'arbaclaw46.LatticeCovers', WHERE WHAT IT READS IS OF BULK AT MOST 1048576: true; the input reads as it did. -/
def latticeCoversUptoRow : OpenClaim := { program := "ytoheffglppbcbaadoor", sum := "575f60ddaf6c8bc5670ba65df76e5d5050adac8b8d7d8f04661b4f3e646e50e0", func := "arbac/arbaclaw46.LatticeCovers", spec := "latticeCovers", inPlace := ["internal/abi.NoEscape"], unfollowed := true, recurses := true, named := ["math/bits.deBruijn64tab", "internal/strconv.uint64pow10", "math/bits.deBruijn32tab"], apart := false, laid := [("math/bits.deBruijn32tab", laid_math_bits_deBruijn32tab), ("math/bits.deBruijn64tab", laid_math_bits_deBruijn64tab), ("internal/strconv.uint64pow10", laid_internal_strconv_uint64pow10)], narrowed := true }
def LatticeCoversUptoSaid : Prop := latticeCoversUptoRow.holds Tryd.pinned (OpenSpec.upto latticeCoversSpec)

/-- 'arbaclaw46.LatticeFinds', WHERE WHAT IT READS IS OF BULK AT MOST 1048576: true; the input reads as it did. -/
def latticeFindsUptoRow : OpenClaim := { program := "ytoheffglppbcbaadoor", sum := "575f60ddaf6c8bc5670ba65df76e5d5050adac8b8d7d8f04661b4f3e646e50e0", func := "arbac/arbaclaw46.LatticeFinds", spec := "latticeFinds", inPlace := ["internal/abi.NoEscape"], unfollowed := true, recurses := true, named := ["math/bits.deBruijn64tab", "internal/strconv.uint64pow10", "math/bits.deBruijn32tab"], apart := false, laid := [("math/bits.deBruijn32tab", laid_math_bits_deBruijn32tab), ("math/bits.deBruijn64tab", laid_math_bits_deBruijn64tab), ("internal/strconv.uint64pow10", laid_internal_strconv_uint64pow10)], narrowed := true }
def LatticeFindsUptoSaid : Prop := latticeFindsUptoRow.holds Tryd.pinned (OpenSpec.upto latticeFindsSpec)

/-- 'arbaclaw46.LatticeNil', WHERE WHAT IT READS IS OF BULK AT MOST 1048576: true; the input reads as it did. -/
def latticeNilUptoRow : OpenClaim := { program := "ytoheffglppbcbaadoor", sum := "575f60ddaf6c8bc5670ba65df76e5d5050adac8b8d7d8f04661b4f3e646e50e0", func := "arbac/arbaclaw46.LatticeNil", spec := "latticeNil", inPlace := ["internal/abi.NoEscape"], unfollowed := true, recurses := true, named := ["math/bits.deBruijn64tab", "internal/strconv.uint64pow10", "math/bits.deBruijn32tab"], apart := false, laid := [("math/bits.deBruijn32tab", laid_math_bits_deBruijn32tab), ("math/bits.deBruijn64tab", laid_math_bits_deBruijn64tab), ("internal/strconv.uint64pow10", laid_internal_strconv_uint64pow10)], narrowed := true }
def LatticeNilUptoSaid : Prop := latticeNilUptoRow.holds Tryd.pinned (OpenSpec.upto latticeNilSpec)

/-- 'arbaclaw46.LatticeTurns', WHERE WHAT IT READS IS OF BULK AT MOST 1048576: true; the input reads as it did. -/
def latticeTurnsUptoRow : OpenClaim := { program := "ytoheffglppbcbaadoor", sum := "575f60ddaf6c8bc5670ba65df76e5d5050adac8b8d7d8f04661b4f3e646e50e0", func := "arbac/arbaclaw46.LatticeTurns", spec := "latticeTurns", inPlace := ["internal/abi.NoEscape"], unfollowed := true, recurses := true, named := ["math/bits.deBruijn64tab", "internal/strconv.uint64pow10", "math/bits.deBruijn32tab"], apart := false, laid := [("math/bits.deBruijn32tab", laid_math_bits_deBruijn32tab), ("math/bits.deBruijn64tab", laid_math_bits_deBruijn64tab), ("internal/strconv.uint64pow10", laid_internal_strconv_uint64pow10)], narrowed := true }
def LatticeTurnsUptoSaid : Prop := latticeTurnsUptoRow.holds Tryd.pinned (OpenSpec.upto latticeTurnsSpec)

/-- 'arbaclaw46.LatticeEnds', WHERE WHAT IT READS IS OF BULK AT MOST 1048576: true; the input reads as it did. -/
def latticeEndsUptoRow : OpenClaim := { program := "ytoheffglppbcbaadoor", sum := "575f60ddaf6c8bc5670ba65df76e5d5050adac8b8d7d8f04661b4f3e646e50e0", func := "arbac/arbaclaw46.LatticeEnds", spec := "latticeEnds", inPlace := ["internal/abi.NoEscape"], unfollowed := true, recurses := true, named := ["math/bits.deBruijn64tab", "internal/strconv.uint64pow10", "math/bits.deBruijn32tab"], apart := false, laid := [("math/bits.deBruijn32tab", laid_math_bits_deBruijn32tab), ("math/bits.deBruijn64tab", laid_math_bits_deBruijn64tab), ("internal/strconv.uint64pow10", laid_internal_strconv_uint64pow10)], narrowed := true }
def LatticeEndsUptoSaid : Prop := latticeEndsUptoRow.holds Tryd.pinned (OpenSpec.upto latticeEndsSpec)

/-- 'arbaclaw46.LatticeChecks', WHERE WHAT IT READS IS OF BULK AT MOST 1048576: true; the input reads as it did. -/
def latticeChecksUptoRow : OpenClaim := { program := "ytoheffglppbcbaadoor", sum := "575f60ddaf6c8bc5670ba65df76e5d5050adac8b8d7d8f04661b4f3e646e50e0", func := "arbac/arbaclaw46.LatticeChecks", spec := "latticeChecks", inPlace := ["internal/abi.NoEscape"], unfollowed := true, recurses := true, named := ["math/bits.deBruijn64tab", "internal/strconv.uint64pow10", "math/bits.deBruijn32tab"], apart := false, laid := [("math/bits.deBruijn32tab", laid_math_bits_deBruijn32tab), ("math/bits.deBruijn64tab", laid_math_bits_deBruijn64tab), ("internal/strconv.uint64pow10", laid_internal_strconv_uint64pow10)], narrowed := true }
def LatticeChecksUptoSaid : Prop := latticeChecksUptoRow.holds Tryd.pinned (OpenSpec.upto latticeChecksSpec)

/-- 'arbaclaw46.LatticeConcepts', WHERE WHAT IT READS IS OF BULK AT MOST 1048576: true; the input reads as it did. -/
def latticeConceptsUptoRow : OpenClaim := { program := "ytoheffglppbcbaadoor", sum := "575f60ddaf6c8bc5670ba65df76e5d5050adac8b8d7d8f04661b4f3e646e50e0", func := "arbac/arbaclaw46.LatticeConcepts", spec := "latticeConcepts", inPlace := ["internal/abi.NoEscape"], unfollowed := true, recurses := true, named := ["math/bits.deBruijn64tab", "internal/strconv.uint64pow10", "math/bits.deBruijn32tab"], apart := false, laid := [("math/bits.deBruijn32tab", laid_math_bits_deBruijn32tab), ("math/bits.deBruijn64tab", laid_math_bits_deBruijn64tab), ("internal/strconv.uint64pow10", laid_internal_strconv_uint64pow10)], narrowed := true }
def LatticeConceptsUptoSaid : Prop := latticeConceptsUptoRow.holds Tryd.pinned (OpenSpec.upto latticeConceptsSpec)

end Rows
end Go.Proofs.YtoheffglppbcbaaDoor
