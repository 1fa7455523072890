/- The table of powers of ten, as the rows list it. -/
import Derived.Test.YtaooojjhlngcmaaDoorShut
import Derived.Test.YtaooojjhlngcmaaDoorLib
namespace Go.Proofs.YtaooojjhlngcmaaDoor
open Go.RowKit
theorem gPow : Tryd.prog.globalNamed "internal/strconv.uint64pow10" = some 0 := by kernel_rfl
theorem gPowT : (Tryd.prog.globals[0]?).map (·.type) = some 162 := by kernel_rfl
theorem cells20 : Tryd.prog.cellsOf 162 = 20 := by kernel_rfl
theorem cellsU64 : Tryd.prog.cellsOf 141 = 1 := by kernel_rfl
theorem pow_of {W : World} {x y : String × DataW Unit} (h : laidMet Tryd.prog [x, y, ("internal/strconv.uint64pow10", Rows.laid_internal_strconv_uint64pow10)] W) : Pow10 (heapX W) := by
  have ht : Lib.TabIs Tryd.prog W "internal/strconv.uint64pow10" .u64 Lib.pow10Tab := Lib.tabIs_of_head gPow gPowT Tryd.underlying162 Tryd.underlying141 cellsU64 cells20 h.tail.tail
  intro w hw
  unfold Lib.TabIs World.var? at ht ⊢
  rw [gPow] at ht ⊢
  simp only [Option.bind_some] at ht ⊢
  cases hg : W.heap[0]? with
  | none => rw [hg] at ht; cases ht
  | some o =>
    rw [hg] at ht
    rw [hw 0 o hg]
    exact ht
end Go.Proofs.YtaooojjhlngcmaaDoor
