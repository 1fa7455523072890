/-
  NARROWER THAN 'FOR EVERY INPUT', by the rows' own cells (each row's printed sentence says how): MembershipOrder: laid · MembershipEnds: laid · MembershipReplaces: laid · MembershipExpires: laid · MembershipPlays: laid · MembershipDays: laid · MembershipNil: laid · MembershipReads: laid · MembershipBytes: laid.
  DERIVED. THE GIVEN ROWS OF THIS SEAT. 9 by the template 'for every input the law returns true; each argument reads behind the call as it read before'; 0 by the template 'total and deterministic' (their statements: YtkmnlogacfkjmaaDoorTotals.lean).
  GIVEN WITH THE SEED: the statements are not yours to turn. If you find one false, say at which input.
  Laid BY PROGRAM, IN A SANDBOX (cutbox-rows.mjs): the forced cells as the released guide's own fill.sh prints them over the translation 572c31440bda68e3… (all of the seat's roots in one cut). By AI agents, Wed Nov 11 2026. No macro, syntax, notation, axiom, sorry.
-/
import Derived.Test.YtkmnlogacfkjmaaDoorChecked
import GoSem.Claim
import GoSem.ClaimJoined
import GoSem.ClaimMapViews
import Derived.JoinedTies
import Derived.KernelRfl
namespace Go.Proofs.YtkmnlogacfkjmaaDoor
/- THE CELL 'sum', in the pinned program and in every row, IS THE sha256 OF THE DUMP (.gsa) THAT YtkmnlogacfkjmaaDoorProg.lean LOADS. Nothing in Lean hashes anything: it is a label: what it is worth is what the hold of that sum in a sandbox is worth. -/
noncomputable def Tryd.pinned : Pinned := { name := "ytkmnlogacfkjmaadoor", sum := "572c31440bda68e3ada88ecb9399b1f235ff7cf4e617df7312b9526388ee121a", checked := Tryd.checked }
namespace Rows
def none {H : Type} : Left H := { results := [], args := [] }

/- WHAT THE LISTED PACKAGE-LEVEL VARIABLES READ AS WHEN THE CALL BEGINS. Each datum BY PROGRAM (the guide's laid-datum.mjs) off the statement by which the dump's own 'gosem.cut.vars' lays the variable. In a bare row this is a premise. The card (YtkmnlogacfkjmaaDoorCards.lean) ties it to the program's text. -/
def laid_math_bits_deBruijn32tab {H : Type} : DataW H := .agg [.lit (.int .u8 0), .lit (.int .u8 1), .lit (.int .u8 28), .lit (.int .u8 2), .lit (.int .u8 29), .lit (.int .u8 14), .lit (.int .u8 24), .lit (.int .u8 3), .lit (.int .u8 30), .lit (.int .u8 22), .lit (.int .u8 20), .lit (.int .u8 15), .lit (.int .u8 25), .lit (.int .u8 17), .lit (.int .u8 4), .lit (.int .u8 8), .lit (.int .u8 31), .lit (.int .u8 27), .lit (.int .u8 13), .lit (.int .u8 23), .lit (.int .u8 21), .lit (.int .u8 19), .lit (.int .u8 16), .lit (.int .u8 7), .lit (.int .u8 26), .lit (.int .u8 12), .lit (.int .u8 18), .lit (.int .u8 6), .lit (.int .u8 11), .lit (.int .u8 5), .lit (.int .u8 10), .lit (.int .u8 9)]
def laid_math_bits_deBruijn64tab {H : Type} : DataW H := .agg [.lit (.int .u8 0), .lit (.int .u8 1), .lit (.int .u8 56), .lit (.int .u8 2), .lit (.int .u8 57), .lit (.int .u8 49), .lit (.int .u8 28), .lit (.int .u8 3), .lit (.int .u8 61), .lit (.int .u8 58), .lit (.int .u8 42), .lit (.int .u8 50), .lit (.int .u8 38), .lit (.int .u8 29), .lit (.int .u8 17), .lit (.int .u8 4), .lit (.int .u8 62), .lit (.int .u8 47), .lit (.int .u8 59), .lit (.int .u8 36), .lit (.int .u8 45), .lit (.int .u8 43), .lit (.int .u8 51), .lit (.int .u8 22), .lit (.int .u8 53), .lit (.int .u8 39), .lit (.int .u8 33), .lit (.int .u8 30), .lit (.int .u8 24), .lit (.int .u8 18), .lit (.int .u8 12), .lit (.int .u8 5), .lit (.int .u8 63), .lit (.int .u8 55), .lit (.int .u8 48), .lit (.int .u8 27), .lit (.int .u8 60), .lit (.int .u8 41), .lit (.int .u8 37), .lit (.int .u8 16), .lit (.int .u8 46), .lit (.int .u8 35), .lit (.int .u8 44), .lit (.int .u8 21), .lit (.int .u8 52), .lit (.int .u8 32), .lit (.int .u8 23), .lit (.int .u8 11), .lit (.int .u8 54), .lit (.int .u8 26), .lit (.int .u8 40), .lit (.int .u8 15), .lit (.int .u8 34), .lit (.int .u8 20), .lit (.int .u8 31), .lit (.int .u8 10), .lit (.int .u8 25), .lit (.int .u8 14), .lit (.int .u8 19), .lit (.int .u8 9), .lit (.int .u8 13), .lit (.int .u8 8), .lit (.int .u8 7), .lit (.int .u8 6)]
def laid_internal_strconv_uint64pow10 {H : Type} : DataW H := .agg [.lit (.int .u64 1), .lit (.int .u64 10), .lit (.int .u64 100), .lit (.int .u64 1000), .lit (.int .u64 10000), .lit (.int .u64 100000), .lit (.int .u64 1000000), .lit (.int .u64 10000000), .lit (.int .u64 100000000), .lit (.int .u64 1000000000), .lit (.int .u64 10000000000), .lit (.int .u64 100000000000), .lit (.int .u64 1000000000000), .lit (.int .u64 10000000000000), .lit (.int .u64 100000000000000), .lit (.int .u64 1000000000000000), .lit (.int .u64 10000000000000000), .lit (.int .u64 100000000000000000), .lit (.int .u64 1000000000000000000), .lit (.int .u64 10000000000000000000)]

/-- 'arbaclaw12.MembershipOrder': WHATEVER THE INPUT: true; the input reads as it did. -/
def membershipOrderSpec : ChangeSpec := { name := "membershipOrder", fn := fun _ => fun
  | [d1, d2] => { results := [.lit (.bool true)], args := [d1, d2] }
  | _ => none }
def membershipOrderRow : OpenClaim := { program := "ytkmnlogacfkjmaadoor", sum := "572c31440bda68e3ada88ecb9399b1f235ff7cf4e617df7312b9526388ee121a", func := "arbac/arbaclaw12.MembershipOrder", spec := "membershipOrder", inPlace := ["slices.overlaps[arbac/membership.Entry]", "internal/abi.NoEscape"], unfollowed := true, recurses := true, named := ["math/bits.deBruijn64tab", "internal/strconv.uint64pow10", "math/bits.deBruijn32tab"], apart := false, laid := [("math/bits.deBruijn32tab", laid_math_bits_deBruijn32tab), ("math/bits.deBruijn64tab", laid_math_bits_deBruijn64tab), ("internal/strconv.uint64pow10", laid_internal_strconv_uint64pow10)] }
def MembershipOrderSaid : Prop := membershipOrderRow.holds Tryd.pinned (OpenSpec.ofChange membershipOrderSpec)

/-- ITS FALSE NEIGHBOUR: 'it returns false'. Refute it at one input. -/
def membershipOrderWrong : ChangeSpec := { name := "membershipOrder", fn := fun _ => fun
  | [d1, d2] => { results := [.lit (.bool false)], args := [d1, d2] }
  | _ => none }
def MembershipOrderWrongFalsely : Prop := membershipOrderRow.holds Tryd.pinned (OpenSpec.ofChange membershipOrderWrong)

/-- 'arbaclaw12.MembershipEnds': WHATEVER THE INPUT: true; the input reads as it did. -/
def membershipEndsSpec : ChangeSpec := { name := "membershipEnds", fn := fun _ => fun
  | [d1, d2] => { results := [.lit (.bool true)], args := [d1, d2] }
  | _ => none }
def membershipEndsRow : OpenClaim := { program := "ytkmnlogacfkjmaadoor", sum := "572c31440bda68e3ada88ecb9399b1f235ff7cf4e617df7312b9526388ee121a", func := "arbac/arbaclaw12.MembershipEnds", spec := "membershipEnds", inPlace := ["slices.overlaps[arbac/membership.Entry]", "internal/abi.NoEscape"], unfollowed := true, recurses := true, named := ["math/bits.deBruijn64tab", "internal/strconv.uint64pow10", "math/bits.deBruijn32tab"], apart := false, laid := [("math/bits.deBruijn32tab", laid_math_bits_deBruijn32tab), ("math/bits.deBruijn64tab", laid_math_bits_deBruijn64tab), ("internal/strconv.uint64pow10", laid_internal_strconv_uint64pow10)] }
def MembershipEndsSaid : Prop := membershipEndsRow.holds Tryd.pinned (OpenSpec.ofChange membershipEndsSpec)

/-- ITS FALSE NEIGHBOUR: 'it returns false'. Refute it at one input. -/
def membershipEndsWrong : ChangeSpec := { name := "membershipEnds", fn := fun _ => fun
  | [d1, d2] => { results := [.lit (.bool false)], args := [d1, d2] }
  | _ => none }
def MembershipEndsWrongFalsely : Prop := membershipEndsRow.holds Tryd.pinned (OpenSpec.ofChange membershipEndsWrong)

/-- 'arbaclaw12.MembershipReplaces': WHATEVER THE INPUT: true; the input reads as it did. -/
def membershipReplacesSpec : ChangeSpec := { name := "membershipReplaces", fn := fun _ => fun
  | [d1, d2] => { results := [.lit (.bool true)], args := [d1, d2] }
  | _ => none }
def membershipReplacesRow : OpenClaim := { program := "ytkmnlogacfkjmaadoor", sum := "572c31440bda68e3ada88ecb9399b1f235ff7cf4e617df7312b9526388ee121a", func := "arbac/arbaclaw12.MembershipReplaces", spec := "membershipReplaces", inPlace := ["slices.overlaps[arbac/membership.Entry]", "internal/abi.NoEscape"], unfollowed := true, recurses := true, named := ["math/bits.deBruijn64tab", "internal/strconv.uint64pow10", "math/bits.deBruijn32tab"], apart := false, laid := [("math/bits.deBruijn32tab", laid_math_bits_deBruijn32tab), ("math/bits.deBruijn64tab", laid_math_bits_deBruijn64tab), ("internal/strconv.uint64pow10", laid_internal_strconv_uint64pow10)] }
def MembershipReplacesSaid : Prop := membershipReplacesRow.holds Tryd.pinned (OpenSpec.ofChange membershipReplacesSpec)

/-- ITS FALSE NEIGHBOUR: 'it returns false'. Refute it at one input. -/
def membershipReplacesWrong : ChangeSpec := { name := "membershipReplaces", fn := fun _ => fun
  | [d1, d2] => { results := [.lit (.bool false)], args := [d1, d2] }
  | _ => none }
def MembershipReplacesWrongFalsely : Prop := membershipReplacesRow.holds Tryd.pinned (OpenSpec.ofChange membershipReplacesWrong)

/-- 'arbaclaw12.MembershipExpires': WHATEVER THE INPUT: true; the input reads as it did. -/
def membershipExpiresSpec : ChangeSpec := { name := "membershipExpires", fn := fun _ => fun
  | [d1, d2, d3] => { results := [.lit (.bool true)], args := [d1, d2, d3] }
  | _ => none }
def membershipExpiresRow : OpenClaim := { program := "ytkmnlogacfkjmaadoor", sum := "572c31440bda68e3ada88ecb9399b1f235ff7cf4e617df7312b9526388ee121a", func := "arbac/arbaclaw12.MembershipExpires", spec := "membershipExpires", inPlace := ["slices.overlaps[arbac/membership.Entry]", "internal/abi.NoEscape"], unfollowed := true, recurses := true, named := ["math/bits.deBruijn64tab", "internal/strconv.uint64pow10", "math/bits.deBruijn32tab"], apart := false, laid := [("math/bits.deBruijn32tab", laid_math_bits_deBruijn32tab), ("math/bits.deBruijn64tab", laid_math_bits_deBruijn64tab), ("internal/strconv.uint64pow10", laid_internal_strconv_uint64pow10)] }
def MembershipExpiresSaid : Prop := membershipExpiresRow.holds Tryd.pinned (OpenSpec.ofChange membershipExpiresSpec)

/-- ITS FALSE NEIGHBOUR: 'it returns false'. Refute it at one input. -/
def membershipExpiresWrong : ChangeSpec := { name := "membershipExpires", fn := fun _ => fun
  | [d1, d2, d3] => { results := [.lit (.bool false)], args := [d1, d2, d3] }
  | _ => none }
def MembershipExpiresWrongFalsely : Prop := membershipExpiresRow.holds Tryd.pinned (OpenSpec.ofChange membershipExpiresWrong)

/-- 'arbaclaw12.MembershipPlays': WHATEVER THE INPUT: true; the input reads as it did. -/
def membershipPlaysSpec : ChangeSpec := { name := "membershipPlays", fn := fun _ => fun
  | [d] => { results := [.lit (.bool true)], args := [d] }
  | _ => none }
def membershipPlaysRow : OpenClaim := { program := "ytkmnlogacfkjmaadoor", sum := "572c31440bda68e3ada88ecb9399b1f235ff7cf4e617df7312b9526388ee121a", func := "arbac/arbaclaw12.MembershipPlays", spec := "membershipPlays", inPlace := ["slices.overlaps[arbac/membership.Entry]", "internal/abi.NoEscape"], unfollowed := true, recurses := true, named := ["math/bits.deBruijn64tab", "internal/strconv.uint64pow10", "math/bits.deBruijn32tab"], apart := false, laid := [("math/bits.deBruijn32tab", laid_math_bits_deBruijn32tab), ("math/bits.deBruijn64tab", laid_math_bits_deBruijn64tab), ("internal/strconv.uint64pow10", laid_internal_strconv_uint64pow10)] }
def MembershipPlaysSaid : Prop := membershipPlaysRow.holds Tryd.pinned (OpenSpec.ofChange membershipPlaysSpec)

/-- ITS FALSE NEIGHBOUR: 'it returns false'. Refute it at one input. -/
def membershipPlaysWrong : ChangeSpec := { name := "membershipPlays", fn := fun _ => fun
  | [d] => { results := [.lit (.bool false)], args := [d] }
  | _ => none }
def MembershipPlaysWrongFalsely : Prop := membershipPlaysRow.holds Tryd.pinned (OpenSpec.ofChange membershipPlaysWrong)

/-- 'arbaclaw12.MembershipDays': WHATEVER THE INPUT: true; the input reads as it did. -/
def membershipDaysSpec : ChangeSpec := { name := "membershipDays", fn := fun _ => fun
  | [d1, d2, d3] => { results := [.lit (.bool true)], args := [d1, d2, d3] }
  | _ => none }
def membershipDaysRow : OpenClaim := { program := "ytkmnlogacfkjmaadoor", sum := "572c31440bda68e3ada88ecb9399b1f235ff7cf4e617df7312b9526388ee121a", func := "arbac/arbaclaw12.MembershipDays", spec := "membershipDays", inPlace := ["slices.overlaps[arbac/membership.Entry]", "internal/abi.NoEscape"], unfollowed := true, recurses := true, named := ["math/bits.deBruijn64tab", "internal/strconv.uint64pow10", "math/bits.deBruijn32tab"], apart := false, laid := [("math/bits.deBruijn32tab", laid_math_bits_deBruijn32tab), ("math/bits.deBruijn64tab", laid_math_bits_deBruijn64tab), ("internal/strconv.uint64pow10", laid_internal_strconv_uint64pow10)] }
def MembershipDaysSaid : Prop := membershipDaysRow.holds Tryd.pinned (OpenSpec.ofChange membershipDaysSpec)

/-- ITS FALSE NEIGHBOUR: 'it returns false'. Refute it at one input. -/
def membershipDaysWrong : ChangeSpec := { name := "membershipDays", fn := fun _ => fun
  | [d1, d2, d3] => { results := [.lit (.bool false)], args := [d1, d2, d3] }
  | _ => none }
def MembershipDaysWrongFalsely : Prop := membershipDaysRow.holds Tryd.pinned (OpenSpec.ofChange membershipDaysWrong)

/-- 'arbaclaw12.MembershipNil': WHATEVER THE INPUT: true; the input reads as it did. -/
def membershipNilSpec : ChangeSpec := { name := "membershipNil", fn := fun _ => fun
  | [d1, d2, d3] => { results := [.lit (.bool true)], args := [d1, d2, d3] }
  | _ => none }
def membershipNilRow : OpenClaim := { program := "ytkmnlogacfkjmaadoor", sum := "572c31440bda68e3ada88ecb9399b1f235ff7cf4e617df7312b9526388ee121a", func := "arbac/arbaclaw12.MembershipNil", spec := "membershipNil", inPlace := ["slices.overlaps[arbac/membership.Entry]", "internal/abi.NoEscape"], unfollowed := true, recurses := true, named := ["math/bits.deBruijn64tab", "internal/strconv.uint64pow10", "math/bits.deBruijn32tab"], apart := false, laid := [("math/bits.deBruijn32tab", laid_math_bits_deBruijn32tab), ("math/bits.deBruijn64tab", laid_math_bits_deBruijn64tab), ("internal/strconv.uint64pow10", laid_internal_strconv_uint64pow10)] }
def MembershipNilSaid : Prop := membershipNilRow.holds Tryd.pinned (OpenSpec.ofChange membershipNilSpec)

/-- ITS FALSE NEIGHBOUR: 'it returns false'. Refute it at one input. -/
def membershipNilWrong : ChangeSpec := { name := "membershipNil", fn := fun _ => fun
  | [d1, d2, d3] => { results := [.lit (.bool false)], args := [d1, d2, d3] }
  | _ => none }
def MembershipNilWrongFalsely : Prop := membershipNilRow.holds Tryd.pinned (OpenSpec.ofChange membershipNilWrong)

/-- 'arbaclaw12.MembershipReads': WHATEVER THE INPUT: true; the input reads as it did. -/
def membershipReadsSpec : ChangeSpec := { name := "membershipReads", fn := fun _ => fun
  | [d1, d2, d3] => { results := [.lit (.bool true)], args := [d1, d2, d3] }
  | _ => none }
def membershipReadsRow : OpenClaim := { program := "ytkmnlogacfkjmaadoor", sum := "572c31440bda68e3ada88ecb9399b1f235ff7cf4e617df7312b9526388ee121a", func := "arbac/arbaclaw12.MembershipReads", spec := "membershipReads", inPlace := ["slices.overlaps[arbac/membership.Entry]", "internal/abi.NoEscape"], unfollowed := true, recurses := true, named := ["math/bits.deBruijn64tab", "internal/strconv.uint64pow10", "math/bits.deBruijn32tab"], apart := false, laid := [("math/bits.deBruijn32tab", laid_math_bits_deBruijn32tab), ("math/bits.deBruijn64tab", laid_math_bits_deBruijn64tab), ("internal/strconv.uint64pow10", laid_internal_strconv_uint64pow10)] }
def MembershipReadsSaid : Prop := membershipReadsRow.holds Tryd.pinned (OpenSpec.ofChange membershipReadsSpec)

/-- ITS FALSE NEIGHBOUR: 'it returns false'. Refute it at one input. -/
def membershipReadsWrong : ChangeSpec := { name := "membershipReads", fn := fun _ => fun
  | [d1, d2, d3] => { results := [.lit (.bool false)], args := [d1, d2, d3] }
  | _ => none }
def MembershipReadsWrongFalsely : Prop := membershipReadsRow.holds Tryd.pinned (OpenSpec.ofChange membershipReadsWrong)

/-- 'arbaclaw12.MembershipBytes': WHATEVER THE INPUT: true; the input reads as it did. -/
def membershipBytesSpec : ChangeSpec := { name := "membershipBytes", fn := fun _ => fun
  | [d] => { results := [.lit (.bool true)], args := [d] }
  | _ => none }
def membershipBytesRow : OpenClaim := { program := "ytkmnlogacfkjmaadoor", sum := "572c31440bda68e3ada88ecb9399b1f235ff7cf4e617df7312b9526388ee121a", func := "arbac/arbaclaw12.MembershipBytes", spec := "membershipBytes", inPlace := ["slices.overlaps[arbac/membership.Entry]", "internal/abi.NoEscape"], unfollowed := true, recurses := true, named := ["math/bits.deBruijn64tab", "internal/strconv.uint64pow10", "math/bits.deBruijn32tab"], apart := false, laid := [("math/bits.deBruijn32tab", laid_math_bits_deBruijn32tab), ("math/bits.deBruijn64tab", laid_math_bits_deBruijn64tab), ("internal/strconv.uint64pow10", laid_internal_strconv_uint64pow10)] }
def MembershipBytesSaid : Prop := membershipBytesRow.holds Tryd.pinned (OpenSpec.ofChange membershipBytesSpec)

/-- ITS FALSE NEIGHBOUR: 'it returns false'. Refute it at one input. -/
def membershipBytesWrong : ChangeSpec := { name := "membershipBytes", fn := fun _ => fun
  | [d] => { results := [.lit (.bool false)], args := [d] }
  | _ => none }
def MembershipBytesWrongFalsely : Prop := membershipBytesRow.holds Tryd.pinned (OpenSpec.ofChange membershipBytesWrong)

/- THE SECOND FORM. 'bulk': how many values and letters a reading holds, each counted each time it is reached (what is shared counts as often as it is met; a slice's spare places count too). A statement '..UptoSaid' is the law's where the arguments, and the package variables that the reading takes, are together of bulk at most 1048576: NARROWER than '..Said'. Prove '..Said' where nothing that the law and all that it calls make is longer than what came in: it says more and counts as full. Else prove '..UptoSaid'. A law counts once. -/
mutual
def uptoBulk {H : Type} : DataW H → Nat
  | .lit (.string bytes) => bytes.length + 1
  | .lit _ => 1
  | .nil => 1
  | .ptr d => uptoBulk d + 1
  | .slice elems spare => uptoBulkAll elems + uptoBulkAll spare + 1
  | .agg parts => uptoBulkAll parts + 1
  | .iface _ d => uptoBulk d + 1
  | .map entries => uptoBulkEntries entries + 1
  | .held _ => 1
def uptoBulkAll {H : Type} : List (DataW H) → Nat
  | [] => 0
  | d :: r => uptoBulk d + uptoBulkAll r
def uptoBulkEntries {H : Type} : List (Lit × DataW H) → Nat
  | [] => 0
  | x :: r => uptoBulkEntry x + uptoBulkEntries r
def uptoBulkEntry {H : Type} : Lit × DataW H → Nat
  | (.string bytes, d) => bytes.length + uptoBulk d + 1
  | (_, d) => uptoBulk d + 1
 end
def uptoSmall : (H : Type) → List (DataW H) → Bool := fun _ ds => decide (uptoBulkAll ds ≤ 1048576)
def OpenSpec.upto (s : _root_.Go.ChangeSpec) : _root_.Go.OpenSpec := { _root_.Go.OpenSpec.ofChange s with cond := some uptoSmall }

/-- 'arbaclaw12.MembershipOrder', WHERE WHAT IT READS IS OF BULK AT MOST 1048576: true; the input reads as it did. -/
def membershipOrderUptoRow : OpenClaim := { program := "ytkmnlogacfkjmaadoor", sum := "572c31440bda68e3ada88ecb9399b1f235ff7cf4e617df7312b9526388ee121a", func := "arbac/arbaclaw12.MembershipOrder", spec := "membershipOrder", inPlace := ["slices.overlaps[arbac/membership.Entry]", "internal/abi.NoEscape"], unfollowed := true, recurses := true, named := ["math/bits.deBruijn64tab", "internal/strconv.uint64pow10", "math/bits.deBruijn32tab"], apart := false, laid := [("math/bits.deBruijn32tab", laid_math_bits_deBruijn32tab), ("math/bits.deBruijn64tab", laid_math_bits_deBruijn64tab), ("internal/strconv.uint64pow10", laid_internal_strconv_uint64pow10)], narrowed := true }
def MembershipOrderUptoSaid : Prop := membershipOrderUptoRow.holds Tryd.pinned (OpenSpec.upto membershipOrderSpec)

/-- 'arbaclaw12.MembershipEnds', WHERE WHAT IT READS IS OF BULK AT MOST 1048576: true; the input reads as it did. -/
def membershipEndsUptoRow : OpenClaim := { program := "ytkmnlogacfkjmaadoor", sum := "572c31440bda68e3ada88ecb9399b1f235ff7cf4e617df7312b9526388ee121a", func := "arbac/arbaclaw12.MembershipEnds", spec := "membershipEnds", inPlace := ["slices.overlaps[arbac/membership.Entry]", "internal/abi.NoEscape"], unfollowed := true, recurses := true, named := ["math/bits.deBruijn64tab", "internal/strconv.uint64pow10", "math/bits.deBruijn32tab"], apart := false, laid := [("math/bits.deBruijn32tab", laid_math_bits_deBruijn32tab), ("math/bits.deBruijn64tab", laid_math_bits_deBruijn64tab), ("internal/strconv.uint64pow10", laid_internal_strconv_uint64pow10)], narrowed := true }
def MembershipEndsUptoSaid : Prop := membershipEndsUptoRow.holds Tryd.pinned (OpenSpec.upto membershipEndsSpec)

/-- 'arbaclaw12.MembershipReplaces', WHERE WHAT IT READS IS OF BULK AT MOST 1048576: true; the input reads as it did. -/
def membershipReplacesUptoRow : OpenClaim := { program := "ytkmnlogacfkjmaadoor", sum := "572c31440bda68e3ada88ecb9399b1f235ff7cf4e617df7312b9526388ee121a", func := "arbac/arbaclaw12.MembershipReplaces", spec := "membershipReplaces", inPlace := ["slices.overlaps[arbac/membership.Entry]", "internal/abi.NoEscape"], unfollowed := true, recurses := true, named := ["math/bits.deBruijn64tab", "internal/strconv.uint64pow10", "math/bits.deBruijn32tab"], apart := false, laid := [("math/bits.deBruijn32tab", laid_math_bits_deBruijn32tab), ("math/bits.deBruijn64tab", laid_math_bits_deBruijn64tab), ("internal/strconv.uint64pow10", laid_internal_strconv_uint64pow10)], narrowed := true }
def MembershipReplacesUptoSaid : Prop := membershipReplacesUptoRow.holds Tryd.pinned (OpenSpec.upto membershipReplacesSpec)

/-- 'arbaclaw12.MembershipExpires', WHERE WHAT IT READS IS OF BULK AT MOST 1048576: true; the input reads as it did. -/
def membershipExpiresUptoRow : OpenClaim := { program := "ytkmnlogacfkjmaadoor", sum := "572c31440bda68e3ada88ecb9399b1f235ff7cf4e617df7312b9526388ee121a", func := "arbac/arbaclaw12.MembershipExpires", spec := "membershipExpires", inPlace := ["slices.overlaps[arbac/membership.Entry]", "internal/abi.NoEscape"], unfollowed := true, recurses := true, named := ["math/bits.deBruijn64tab", "internal/strconv.uint64pow10", "math/bits.deBruijn32tab"], apart := false, laid := [("math/bits.deBruijn32tab", laid_math_bits_deBruijn32tab), ("math/bits.deBruijn64tab", laid_math_bits_deBruijn64tab), ("internal/strconv.uint64pow10", laid_internal_strconv_uint64pow10)], narrowed := true }
def MembershipExpiresUptoSaid : Prop := membershipExpiresUptoRow.holds Tryd.pinned (OpenSpec.upto membershipExpiresSpec)

/-- 'arbaclaw12.MembershipPlays', WHERE WHAT IT READS IS OF BULK AT MOST 1048576: true; the input reads as it did. -/
def membershipPlaysUptoRow : OpenClaim := { program := "ytkmnlogacfkjmaadoor", sum := "572c31440bda68e3ada88ecb9399b1f235ff7cf4e617df7312b9526388ee121a", func := "arbac/arbaclaw12.MembershipPlays", spec := "membershipPlays", inPlace := ["slices.overlaps[arbac/membership.Entry]", "internal/abi.NoEscape"], unfollowed := true, recurses := true, named := ["math/bits.deBruijn64tab", "internal/strconv.uint64pow10", "math/bits.deBruijn32tab"], apart := false, laid := [("math/bits.deBruijn32tab", laid_math_bits_deBruijn32tab), ("math/bits.deBruijn64tab", laid_math_bits_deBruijn64tab), ("internal/strconv.uint64pow10", laid_internal_strconv_uint64pow10)], narrowed := true }
def MembershipPlaysUptoSaid : Prop := membershipPlaysUptoRow.holds Tryd.pinned (OpenSpec.upto membershipPlaysSpec)

/-- 'arbaclaw12.MembershipDays', WHERE WHAT IT READS IS OF BULK AT MOST 1048576: true; the input reads as it did. -/
def membershipDaysUptoRow : OpenClaim := { program := "ytkmnlogacfkjmaadoor", sum := "572c31440bda68e3ada88ecb9399b1f235ff7cf4e617df7312b9526388ee121a", func := "arbac/arbaclaw12.MembershipDays", spec := "membershipDays", inPlace := ["slices.overlaps[arbac/membership.Entry]", "internal/abi.NoEscape"], unfollowed := true, recurses := true, named := ["math/bits.deBruijn64tab", "internal/strconv.uint64pow10", "math/bits.deBruijn32tab"], apart := false, laid := [("math/bits.deBruijn32tab", laid_math_bits_deBruijn32tab), ("math/bits.deBruijn64tab", laid_math_bits_deBruijn64tab), ("internal/strconv.uint64pow10", laid_internal_strconv_uint64pow10)], narrowed := true }
def MembershipDaysUptoSaid : Prop := membershipDaysUptoRow.holds Tryd.pinned (OpenSpec.upto membershipDaysSpec)

/-- 'arbaclaw12.MembershipNil', WHERE WHAT IT READS IS OF BULK AT MOST 1048576: true; the input reads as it did. -/
def membershipNilUptoRow : OpenClaim := { program := "ytkmnlogacfkjmaadoor", sum := "572c31440bda68e3ada88ecb9399b1f235ff7cf4e617df7312b9526388ee121a", func := "arbac/arbaclaw12.MembershipNil", spec := "membershipNil", inPlace := ["slices.overlaps[arbac/membership.Entry]", "internal/abi.NoEscape"], unfollowed := true, recurses := true, named := ["math/bits.deBruijn64tab", "internal/strconv.uint64pow10", "math/bits.deBruijn32tab"], apart := false, laid := [("math/bits.deBruijn32tab", laid_math_bits_deBruijn32tab), ("math/bits.deBruijn64tab", laid_math_bits_deBruijn64tab), ("internal/strconv.uint64pow10", laid_internal_strconv_uint64pow10)], narrowed := true }
def MembershipNilUptoSaid : Prop := membershipNilUptoRow.holds Tryd.pinned (OpenSpec.upto membershipNilSpec)

/-- 'arbaclaw12.MembershipReads', WHERE WHAT IT READS IS OF BULK AT MOST 1048576: true; the input reads as it did. -/
def membershipReadsUptoRow : OpenClaim := { program := "ytkmnlogacfkjmaadoor", sum := "572c31440bda68e3ada88ecb9399b1f235ff7cf4e617df7312b9526388ee121a", func := "arbac/arbaclaw12.MembershipReads", spec := "membershipReads", inPlace := ["slices.overlaps[arbac/membership.Entry]", "internal/abi.NoEscape"], unfollowed := true, recurses := true, named := ["math/bits.deBruijn64tab", "internal/strconv.uint64pow10", "math/bits.deBruijn32tab"], apart := false, laid := [("math/bits.deBruijn32tab", laid_math_bits_deBruijn32tab), ("math/bits.deBruijn64tab", laid_math_bits_deBruijn64tab), ("internal/strconv.uint64pow10", laid_internal_strconv_uint64pow10)], narrowed := true }
def MembershipReadsUptoSaid : Prop := membershipReadsUptoRow.holds Tryd.pinned (OpenSpec.upto membershipReadsSpec)

/-- 'arbaclaw12.MembershipBytes', WHERE WHAT IT READS IS OF BULK AT MOST 1048576: true; the input reads as it did. -/
def membershipBytesUptoRow : OpenClaim := { program := "ytkmnlogacfkjmaadoor", sum := "572c31440bda68e3ada88ecb9399b1f235ff7cf4e617df7312b9526388ee121a", func := "arbac/arbaclaw12.MembershipBytes", spec := "membershipBytes", inPlace := ["slices.overlaps[arbac/membership.Entry]", "internal/abi.NoEscape"], unfollowed := true, recurses := true, named := ["math/bits.deBruijn64tab", "internal/strconv.uint64pow10", "math/bits.deBruijn32tab"], apart := false, laid := [("math/bits.deBruijn32tab", laid_math_bits_deBruijn32tab), ("math/bits.deBruijn64tab", laid_math_bits_deBruijn64tab), ("internal/strconv.uint64pow10", laid_internal_strconv_uint64pow10)], narrowed := true }
def MembershipBytesUptoSaid : Prop := membershipBytesUptoRow.holds Tryd.pinned (OpenSpec.upto membershipBytesSpec)

end Rows
end Go.Proofs.YtkmnlogacfkjmaaDoor
