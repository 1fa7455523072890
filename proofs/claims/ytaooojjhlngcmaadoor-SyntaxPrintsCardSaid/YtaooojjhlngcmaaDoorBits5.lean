/- SETS OF SMALL NUMBERS: ranging over the members. -/
import Derived.Test.YtaooojjhlngcmaaDoorBits4
import Derived.Test.YtaooojjhlngcmaaDoorEngine2
namespace Go.Proofs.YtaooojjhlngcmaaDoor
open Go.RowKit
theorem mem64_drop {m x i t q : Nat} (h : (mem64 m).drop i = mem64 x) (hx : x = 2 ^ t * (2 * q + 1)) (ht : t < 64) : (mem64 m)[i]? = some t ∧ (mem64 m).drop (i + 1) = mem64 (2 ^ t * (2 * q)) := by
  rw [hx, mem64_cons t q ht] at h
  refine ⟨?_, ?_⟩
  · have := congrArg (·[0]?) h
    simpa using this
  · have := congrArg (List.drop 1) h
    simpa using this
end Go.Proofs.YtaooojjhlngcmaaDoor
