/- What the law's proof rests on: the engine, a small separation logic over the kit's walk, and contracts of the functions that the law reaches. Part 6. -/
import Derived.Test.YtaooojjhlngcmaaGreatDoorChecked
import Derived.Shelf.Sort.AssemblysIn
import Derived.Shelf.Strconv.Itoa3
import Derived.Sort.EveryDepth
import Derived.Test.YtaooojjhlngcmaaGreatDoorPart1
import Derived.Test.YtaooojjhlngcmaaGreatDoorPart2
import Derived.Test.YtaooojjhlngcmaaGreatDoorPart3
import Derived.Test.YtaooojjhlngcmaaGreatDoorPart4
import Derived.Test.YtaooojjhlngcmaaGreatDoorPart5
namespace Go.Proofs.YtaooojjhlngcmaaGreatDoor
section
set_option maxRecDepth 100000
theorem bs5 : ∃ i z, Tryz.prog.info? 5 = some i ∧ i.size = 1 ∧ i.zero = some z ∧ z.cells = ([.int .u8 0] : List Value).toArray := bs_of (by kernel_rfl)
theorem en14 : Enters Tryz.prog 14 := enters_mk Tryz.func14 (by kernel_rfl) rfl
theorem en32 : Enters Tryz.prog 32 := enters_mk Tryz.func32 (by kernel_rfl) rfl
theorem en53 : Enters Tryz.prog 53 := enters_mk Tryz.func53 (by kernel_rfl) rfl
theorem en54 : Enters Tryz.prog 54 := enters_mk Tryz.func54 (by kernel_rfl) rfl
theorem en55 : Enters Tryz.prog 55 := enters_mk Tryz.func55 (by kernel_rfl) rfl
end
open Go.RowKit
theorem binds_spec {X : PMap} {op : Nat} : Spec Tryz.prog 55 [.int .i64 (op : Int)] X fun u _ => u = .int .i64 (strN op : Int) := by
  by_cases h1 : op = 10
  · refine Spec.enter Tryz.func55 rfl Tryz.ntmps55 rfl ?_
    intro w0 hw0
    refine T.seq ?_
    refine T.region ?_
    refine SL.y (op_assign (v := .int .i64 ((0 : Nat) : Int)) rfl) rfl rfl ?_
    refine SL.nil ?_
    refine T.seq ?_
    refine T.block ?_
    refine T.seq ?_
    refine T.region ?_
    refine SL.y (op_move rfl) rfl rfl ?_
    first | refine SL.y (op_eqlT rfl rfl (by omega)) rfl rfl ?_ | refine SL.y (op_eqlF rfl rfl (by omega)) rfl rfl ?_ | refine SL.y (op_eql rfl rfl) rfl rfl ?_
    refine SL.y (op_assign rfl) rfl rfl ?_
    refine SL.nil ?_
    refine T.condT rfl ?_
    refine T.seq ?_
    refine T.region ?_
    refine SL.y (op_assign (v := .int .i64 ((1 : Nat) : Int)) rfl) rfl rfl ?_
    refine SL.nil ?_
    refine T.ret1 rfl (ResIs.tmp rfl) ?_
    rw [strN, if_pos h1]
  by_cases h2 : op = 9
  · refine Spec.enter Tryz.func55 rfl Tryz.ntmps55 rfl ?_
    intro w0 hw0
    refine T.seq ?_
    refine T.region ?_
    refine SL.y (op_assign (v := .int .i64 ((0 : Nat) : Int)) rfl) rfl rfl ?_
    refine SL.nil ?_
    refine T.seq ?_
    refine T.block ?_
    refine T.seq ?_
    refine T.region ?_
    refine SL.y (op_move rfl) rfl rfl ?_
    first | refine SL.y (op_eqlT rfl rfl (by omega)) rfl rfl ?_ | refine SL.y (op_eqlF rfl rfl (by omega)) rfl rfl ?_ | refine SL.y (op_eql rfl rfl) rfl rfl ?_
    refine SL.y (op_assign rfl) rfl rfl ?_
    refine SL.nil ?_
    refine T.condF rfl ?_
    refine T.seq ?_
    refine T.region ?_
    refine SL.y (op_move rfl) rfl rfl ?_
    first | refine SL.y (op_eqlT rfl rfl (by omega)) rfl rfl ?_ | refine SL.y (op_eqlF rfl rfl (by omega)) rfl rfl ?_ | refine SL.y (op_eql rfl rfl) rfl rfl ?_
    refine SL.y (op_assign rfl) rfl rfl ?_
    refine SL.nil ?_
    refine T.condT rfl ?_
    refine T.seq ?_
    refine T.region ?_
    refine SL.y (op_assign (v := .int .i64 ((2 : Nat) : Int)) rfl) rfl rfl ?_
    refine SL.nil ?_
    refine T.ret1 rfl (ResIs.tmp rfl) ?_
    rw [strN, if_neg h1, if_pos h2]
  by_cases h3 : op = 8
  · refine Spec.enter Tryz.func55 rfl Tryz.ntmps55 rfl ?_
    intro w0 hw0
    refine T.seq ?_
    refine T.region ?_
    refine SL.y (op_assign (v := .int .i64 ((0 : Nat) : Int)) rfl) rfl rfl ?_
    refine SL.nil ?_
    refine T.seq ?_
    refine T.block ?_
    refine T.seq ?_
    refine T.region ?_
    refine SL.y (op_move rfl) rfl rfl ?_
    first | refine SL.y (op_eqlT rfl rfl (by omega)) rfl rfl ?_ | refine SL.y (op_eqlF rfl rfl (by omega)) rfl rfl ?_ | refine SL.y (op_eql rfl rfl) rfl rfl ?_
    refine SL.y (op_assign rfl) rfl rfl ?_
    refine SL.nil ?_
    refine T.condF rfl ?_
    refine T.seq ?_
    refine T.region ?_
    refine SL.y (op_move rfl) rfl rfl ?_
    first | refine SL.y (op_eqlT rfl rfl (by omega)) rfl rfl ?_ | refine SL.y (op_eqlF rfl rfl (by omega)) rfl rfl ?_ | refine SL.y (op_eql rfl rfl) rfl rfl ?_
    refine SL.y (op_assign rfl) rfl rfl ?_
    refine SL.nil ?_
    refine T.condF rfl ?_
    refine T.seq ?_
    refine T.region ?_
    refine SL.y (op_move rfl) rfl rfl ?_
    first | refine SL.y (op_eqlT rfl rfl (by omega)) rfl rfl ?_ | refine SL.y (op_eqlF rfl rfl (by omega)) rfl rfl ?_ | refine SL.y (op_eql rfl rfl) rfl rfl ?_
    refine SL.y (op_assign rfl) rfl rfl ?_
    refine SL.nil ?_
    refine T.condT rfl ?_
    refine T.seq ?_
    refine T.region ?_
    refine SL.y (op_assign (v := .int .i64 ((3 : Nat) : Int)) rfl) rfl rfl ?_
    refine SL.nil ?_
    refine T.ret1 rfl (ResIs.tmp rfl) ?_
    rw [strN, if_neg h1, if_neg h2, if_pos h3]
  by_cases h4 : op = 7
  · refine Spec.enter Tryz.func55 rfl Tryz.ntmps55 rfl ?_
    intro w0 hw0
    refine T.seq ?_
    refine T.region ?_
    refine SL.y (op_assign (v := .int .i64 ((0 : Nat) : Int)) rfl) rfl rfl ?_
    refine SL.nil ?_
    refine T.seq ?_
    refine T.block ?_
    refine T.seq ?_
    refine T.region ?_
    refine SL.y (op_move rfl) rfl rfl ?_
    first | refine SL.y (op_eqlT rfl rfl (by omega)) rfl rfl ?_ | refine SL.y (op_eqlF rfl rfl (by omega)) rfl rfl ?_ | refine SL.y (op_eql rfl rfl) rfl rfl ?_
    refine SL.y (op_assign rfl) rfl rfl ?_
    refine SL.nil ?_
    refine T.condF rfl ?_
    refine T.seq ?_
    refine T.region ?_
    refine SL.y (op_move rfl) rfl rfl ?_
    first | refine SL.y (op_eqlT rfl rfl (by omega)) rfl rfl ?_ | refine SL.y (op_eqlF rfl rfl (by omega)) rfl rfl ?_ | refine SL.y (op_eql rfl rfl) rfl rfl ?_
    refine SL.y (op_assign rfl) rfl rfl ?_
    refine SL.nil ?_
    refine T.condF rfl ?_
    refine T.seq ?_
    refine T.region ?_
    refine SL.y (op_move rfl) rfl rfl ?_
    first | refine SL.y (op_eqlT rfl rfl (by omega)) rfl rfl ?_ | refine SL.y (op_eqlF rfl rfl (by omega)) rfl rfl ?_ | refine SL.y (op_eql rfl rfl) rfl rfl ?_
    refine SL.y (op_assign rfl) rfl rfl ?_
    refine SL.nil ?_
    refine T.condF rfl ?_
    refine T.seq ?_
    refine T.region ?_
    refine SL.y (op_move rfl) rfl rfl ?_
    first | refine SL.y (op_eqlT rfl rfl (by omega)) rfl rfl ?_ | refine SL.y (op_eqlF rfl rfl (by omega)) rfl rfl ?_ | refine SL.y (op_eql rfl rfl) rfl rfl ?_
    refine SL.y (op_assign rfl) rfl rfl ?_
    refine SL.nil ?_
    refine T.condT rfl ?_
    refine T.seq ?_
    refine T.region ?_
    refine SL.y (op_assign (v := .int .i64 ((4 : Nat) : Int)) rfl) rfl rfl ?_
    refine SL.nil ?_
    refine T.ret1 rfl (ResIs.tmp rfl) ?_
    rw [strN, if_neg h1, if_neg h2, if_neg h3, if_pos h4]
  by_cases h5 : 11 ≤ op ∧ op ≤ 15
  · obtain ⟨g1, g2⟩ := h5
    refine Spec.enter Tryz.func55 rfl Tryz.ntmps55 rfl ?_
    intro w0 hw0
    refine T.seq ?_
    refine T.region ?_
    refine SL.y (op_assign (v := .int .i64 ((0 : Nat) : Int)) rfl) rfl rfl ?_
    refine SL.nil ?_
    refine T.seq ?_
    refine T.block ?_
    refine T.seq ?_
    refine T.region ?_
    refine SL.y (op_move rfl) rfl rfl ?_
    first | refine SL.y (op_eqlT rfl rfl (by omega)) rfl rfl ?_ | refine SL.y (op_eqlF rfl rfl (by omega)) rfl rfl ?_ | refine SL.y (op_eql rfl rfl) rfl rfl ?_
    refine SL.y (op_assign rfl) rfl rfl ?_
    refine SL.nil ?_
    refine T.condF rfl ?_
    refine T.seq ?_
    refine T.region ?_
    refine SL.y (op_move rfl) rfl rfl ?_
    first | refine SL.y (op_eqlT rfl rfl (by omega)) rfl rfl ?_ | refine SL.y (op_eqlF rfl rfl (by omega)) rfl rfl ?_ | refine SL.y (op_eql rfl rfl) rfl rfl ?_
    refine SL.y (op_assign rfl) rfl rfl ?_
    refine SL.nil ?_
    refine T.condF rfl ?_
    refine T.seq ?_
    refine T.region ?_
    refine SL.y (op_move rfl) rfl rfl ?_
    first | refine SL.y (op_eqlT rfl rfl (by omega)) rfl rfl ?_ | refine SL.y (op_eqlF rfl rfl (by omega)) rfl rfl ?_ | refine SL.y (op_eql rfl rfl) rfl rfl ?_
    refine SL.y (op_assign rfl) rfl rfl ?_
    refine SL.nil ?_
    refine T.condF rfl ?_
    refine T.seq ?_
    refine T.region ?_
    refine SL.y (op_move rfl) rfl rfl ?_
    first | refine SL.y (op_eqlT rfl rfl (by omega)) rfl rfl ?_ | refine SL.y (op_eqlF rfl rfl (by omega)) rfl rfl ?_ | refine SL.y (op_eql rfl rfl) rfl rfl ?_
    refine SL.y (op_assign rfl) rfl rfl ?_
    refine SL.nil ?_
    refine T.condF rfl ?_
    refine T.seq ?_
    refine T.region ?_
    refine SL.y (op_move rfl) rfl rfl ?_
    first | refine SL.y (op_geqT rfl rfl (by omega)) rfl rfl ?_ | refine SL.y (op_geqF rfl rfl (by omega)) rfl rfl ?_ | refine SL.y (op_geq rfl rfl) rfl rfl ?_
    refine SL.y (op_move rfl) rfl rfl ?_
    first | refine SL.skip rfl rfl ?_ | refine SL.y (op_move rfl) rfl rfl ?_
    first | refine SL.skip rfl rfl ?_ | refine SL.y (op_leqT rfl rfl (by omega)) rfl rfl ?_ | refine SL.y (op_leqF rfl rfl (by omega)) rfl rfl ?_ | refine SL.y (op_leq rfl rfl) rfl rfl ?_
    first | refine SL.y (op_pickT rfl rfl) rfl rfl ?_ | refine SL.y (op_pickF rfl rfl) rfl rfl ?_ | refine SL.y (op_pickB rfl rfl rfl) rfl rfl ?_
    refine SL.y (op_assign rfl) rfl rfl ?_
    refine SL.nil ?_
    refine T.condT rfl ?_
    refine T.seq ?_
    refine T.region ?_
    refine SL.y (op_assign (v := .int .i64 ((5 : Nat) : Int)) rfl) rfl rfl ?_
    refine SL.nil ?_
    refine T.ret1 rfl (ResIs.tmp rfl) ?_
    rw [strN, if_neg h1, if_neg h2, if_neg h3, if_neg h4, if_pos ⟨g1, g2⟩]
  by_cases h6 : op = 16
  · refine Spec.enter Tryz.func55 rfl Tryz.ntmps55 rfl ?_
    intro w0 hw0
    refine T.seq ?_
    refine T.region ?_
    refine SL.y (op_assign (v := .int .i64 ((0 : Nat) : Int)) rfl) rfl rfl ?_
    refine SL.nil ?_
    refine T.seq ?_
    refine T.block ?_
    refine T.seq ?_
    refine T.region ?_
    refine SL.y (op_move rfl) rfl rfl ?_
    first | refine SL.y (op_eqlT rfl rfl (by omega)) rfl rfl ?_ | refine SL.y (op_eqlF rfl rfl (by omega)) rfl rfl ?_ | refine SL.y (op_eql rfl rfl) rfl rfl ?_
    refine SL.y (op_assign rfl) rfl rfl ?_
    refine SL.nil ?_
    refine T.condF rfl ?_
    refine T.seq ?_
    refine T.region ?_
    refine SL.y (op_move rfl) rfl rfl ?_
    first | refine SL.y (op_eqlT rfl rfl (by omega)) rfl rfl ?_ | refine SL.y (op_eqlF rfl rfl (by omega)) rfl rfl ?_ | refine SL.y (op_eql rfl rfl) rfl rfl ?_
    refine SL.y (op_assign rfl) rfl rfl ?_
    refine SL.nil ?_
    refine T.condF rfl ?_
    refine T.seq ?_
    refine T.region ?_
    refine SL.y (op_move rfl) rfl rfl ?_
    first | refine SL.y (op_eqlT rfl rfl (by omega)) rfl rfl ?_ | refine SL.y (op_eqlF rfl rfl (by omega)) rfl rfl ?_ | refine SL.y (op_eql rfl rfl) rfl rfl ?_
    refine SL.y (op_assign rfl) rfl rfl ?_
    refine SL.nil ?_
    refine T.condF rfl ?_
    refine T.seq ?_
    refine T.region ?_
    refine SL.y (op_move rfl) rfl rfl ?_
    first | refine SL.y (op_eqlT rfl rfl (by omega)) rfl rfl ?_ | refine SL.y (op_eqlF rfl rfl (by omega)) rfl rfl ?_ | refine SL.y (op_eql rfl rfl) rfl rfl ?_
    refine SL.y (op_assign rfl) rfl rfl ?_
    refine SL.nil ?_
    refine T.condF rfl ?_
    refine T.seq ?_
    refine T.region ?_
    refine SL.y (op_move rfl) rfl rfl ?_
    first | refine SL.y (op_geqT rfl rfl (by omega)) rfl rfl ?_ | refine SL.y (op_geqF rfl rfl (by omega)) rfl rfl ?_ | refine SL.y (op_geq rfl rfl) rfl rfl ?_
    refine SL.y (op_move rfl) rfl rfl ?_
    first | refine SL.skip rfl rfl ?_ | refine SL.y (op_move rfl) rfl rfl ?_
    first | refine SL.skip rfl rfl ?_ | refine SL.y (op_leqT rfl rfl (by omega)) rfl rfl ?_ | refine SL.y (op_leqF rfl rfl (by omega)) rfl rfl ?_ | refine SL.y (op_leq rfl rfl) rfl rfl ?_
    first | refine SL.y (op_pickT rfl rfl) rfl rfl ?_ | refine SL.y (op_pickF rfl rfl) rfl rfl ?_ | refine SL.y (op_pickB rfl rfl rfl) rfl rfl ?_
    refine SL.y (op_assign rfl) rfl rfl ?_
    refine SL.nil ?_
    refine T.condF rfl ?_
    refine T.seq ?_
    refine T.region ?_
    refine SL.y (op_move rfl) rfl rfl ?_
    first | refine SL.y (op_eqlT rfl rfl (by omega)) rfl rfl ?_ | refine SL.y (op_eqlF rfl rfl (by omega)) rfl rfl ?_ | refine SL.y (op_eql rfl rfl) rfl rfl ?_
    refine SL.y (op_assign rfl) rfl rfl ?_
    refine SL.nil ?_
    refine T.condT rfl ?_
    refine T.seq ?_
    refine T.region ?_
    refine SL.y (op_assign (v := .int .i64 ((6 : Nat) : Int)) rfl) rfl rfl ?_
    refine SL.nil ?_
    refine T.ret1 rfl (ResIs.tmp rfl) ?_
    rw [strN, if_neg h1, if_neg h2, if_neg h3, if_neg h4, if_neg h5, if_pos h6]
  by_cases h7 : 11 ≤ op
  · have h8 : ¬op ≤ 15 := fun h => h5 ⟨h7, h⟩
    refine Spec.enter Tryz.func55 rfl Tryz.ntmps55 rfl ?_
    intro w0 hw0
    refine T.seq ?_
    refine T.region ?_
    refine SL.y (op_assign (v := .int .i64 ((0 : Nat) : Int)) rfl) rfl rfl ?_
    refine SL.nil ?_
    refine T.seq ?_
    refine T.block ?_
    refine T.seq ?_
    refine T.region ?_
    refine SL.y (op_move rfl) rfl rfl ?_
    first | refine SL.y (op_eqlT rfl rfl (by omega)) rfl rfl ?_ | refine SL.y (op_eqlF rfl rfl (by omega)) rfl rfl ?_ | refine SL.y (op_eql rfl rfl) rfl rfl ?_
    refine SL.y (op_assign rfl) rfl rfl ?_
    refine SL.nil ?_
    refine T.condF rfl ?_
    refine T.seq ?_
    refine T.region ?_
    refine SL.y (op_move rfl) rfl rfl ?_
    first | refine SL.y (op_eqlT rfl rfl (by omega)) rfl rfl ?_ | refine SL.y (op_eqlF rfl rfl (by omega)) rfl rfl ?_ | refine SL.y (op_eql rfl rfl) rfl rfl ?_
    refine SL.y (op_assign rfl) rfl rfl ?_
    refine SL.nil ?_
    refine T.condF rfl ?_
    refine T.seq ?_
    refine T.region ?_
    refine SL.y (op_move rfl) rfl rfl ?_
    first | refine SL.y (op_eqlT rfl rfl (by omega)) rfl rfl ?_ | refine SL.y (op_eqlF rfl rfl (by omega)) rfl rfl ?_ | refine SL.y (op_eql rfl rfl) rfl rfl ?_
    refine SL.y (op_assign rfl) rfl rfl ?_
    refine SL.nil ?_
    refine T.condF rfl ?_
    refine T.seq ?_
    refine T.region ?_
    refine SL.y (op_move rfl) rfl rfl ?_
    first | refine SL.y (op_eqlT rfl rfl (by omega)) rfl rfl ?_ | refine SL.y (op_eqlF rfl rfl (by omega)) rfl rfl ?_ | refine SL.y (op_eql rfl rfl) rfl rfl ?_
    refine SL.y (op_assign rfl) rfl rfl ?_
    refine SL.nil ?_
    refine T.condF rfl ?_
    refine T.seq ?_
    refine T.region ?_
    refine SL.y (op_move rfl) rfl rfl ?_
    first | refine SL.y (op_geqT rfl rfl (by omega)) rfl rfl ?_ | refine SL.y (op_geqF rfl rfl (by omega)) rfl rfl ?_ | refine SL.y (op_geq rfl rfl) rfl rfl ?_
    refine SL.y (op_move rfl) rfl rfl ?_
    first | refine SL.skip rfl rfl ?_ | refine SL.y (op_move rfl) rfl rfl ?_
    first | refine SL.skip rfl rfl ?_ | refine SL.y (op_leqT rfl rfl (by omega)) rfl rfl ?_ | refine SL.y (op_leqF rfl rfl (by omega)) rfl rfl ?_ | refine SL.y (op_leq rfl rfl) rfl rfl ?_
    first | refine SL.y (op_pickT rfl rfl) rfl rfl ?_ | refine SL.y (op_pickF rfl rfl) rfl rfl ?_ | refine SL.y (op_pickB rfl rfl rfl) rfl rfl ?_
    refine SL.y (op_assign rfl) rfl rfl ?_
    refine SL.nil ?_
    refine T.condF rfl ?_
    refine T.seq ?_
    refine T.region ?_
    refine SL.y (op_move rfl) rfl rfl ?_
    first | refine SL.y (op_eqlT rfl rfl (by omega)) rfl rfl ?_ | refine SL.y (op_eqlF rfl rfl (by omega)) rfl rfl ?_ | refine SL.y (op_eql rfl rfl) rfl rfl ?_
    refine SL.y (op_assign rfl) rfl rfl ?_
    refine SL.nil ?_
    refine T.condF rfl ?_
    refine T.skip ?_
    refine T.blk ?_
    refine T.seq ?_
    refine T.region ?_
    refine SL.y (op_assign (v := .int .i64 ((7 : Nat) : Int)) rfl) rfl rfl ?_
    refine SL.nil ?_
    refine T.ret1 rfl (ResIs.tmp rfl) ?_
    rw [strN, if_neg h1, if_neg h2, if_neg h3, if_neg h4, if_neg h5, if_neg h6]
  · refine Spec.enter Tryz.func55 rfl Tryz.ntmps55 rfl ?_
    intro w0 hw0
    refine T.seq ?_
    refine T.region ?_
    refine SL.y (op_assign (v := .int .i64 ((0 : Nat) : Int)) rfl) rfl rfl ?_
    refine SL.nil ?_
    refine T.seq ?_
    refine T.block ?_
    refine T.seq ?_
    refine T.region ?_
    refine SL.y (op_move rfl) rfl rfl ?_
    first | refine SL.y (op_eqlT rfl rfl (by omega)) rfl rfl ?_ | refine SL.y (op_eqlF rfl rfl (by omega)) rfl rfl ?_ | refine SL.y (op_eql rfl rfl) rfl rfl ?_
    refine SL.y (op_assign rfl) rfl rfl ?_
    refine SL.nil ?_
    refine T.condF rfl ?_
    refine T.seq ?_
    refine T.region ?_
    refine SL.y (op_move rfl) rfl rfl ?_
    first | refine SL.y (op_eqlT rfl rfl (by omega)) rfl rfl ?_ | refine SL.y (op_eqlF rfl rfl (by omega)) rfl rfl ?_ | refine SL.y (op_eql rfl rfl) rfl rfl ?_
    refine SL.y (op_assign rfl) rfl rfl ?_
    refine SL.nil ?_
    refine T.condF rfl ?_
    refine T.seq ?_
    refine T.region ?_
    refine SL.y (op_move rfl) rfl rfl ?_
    first | refine SL.y (op_eqlT rfl rfl (by omega)) rfl rfl ?_ | refine SL.y (op_eqlF rfl rfl (by omega)) rfl rfl ?_ | refine SL.y (op_eql rfl rfl) rfl rfl ?_
    refine SL.y (op_assign rfl) rfl rfl ?_
    refine SL.nil ?_
    refine T.condF rfl ?_
    refine T.seq ?_
    refine T.region ?_
    refine SL.y (op_move rfl) rfl rfl ?_
    first | refine SL.y (op_eqlT rfl rfl (by omega)) rfl rfl ?_ | refine SL.y (op_eqlF rfl rfl (by omega)) rfl rfl ?_ | refine SL.y (op_eql rfl rfl) rfl rfl ?_
    refine SL.y (op_assign rfl) rfl rfl ?_
    refine SL.nil ?_
    refine T.condF rfl ?_
    refine T.seq ?_
    refine T.region ?_
    refine SL.y (op_move rfl) rfl rfl ?_
    first | refine SL.y (op_geqT rfl rfl (by omega)) rfl rfl ?_ | refine SL.y (op_geqF rfl rfl (by omega)) rfl rfl ?_ | refine SL.y (op_geq rfl rfl) rfl rfl ?_
    refine SL.y (op_move rfl) rfl rfl ?_
    first | refine SL.skip rfl rfl ?_ | refine SL.y (op_move rfl) rfl rfl ?_
    first | refine SL.skip rfl rfl ?_ | refine SL.y (op_leqT rfl rfl (by omega)) rfl rfl ?_ | refine SL.y (op_leqF rfl rfl (by omega)) rfl rfl ?_ | refine SL.y (op_leq rfl rfl) rfl rfl ?_
    first | refine SL.y (op_pickT rfl rfl) rfl rfl ?_ | refine SL.y (op_pickF rfl rfl) rfl rfl ?_ | refine SL.y (op_pickB rfl rfl rfl) rfl rfl ?_
    refine SL.y (op_assign rfl) rfl rfl ?_
    refine SL.nil ?_
    refine T.condF rfl ?_
    refine T.seq ?_
    refine T.region ?_
    refine SL.y (op_move rfl) rfl rfl ?_
    first | refine SL.y (op_eqlT rfl rfl (by omega)) rfl rfl ?_ | refine SL.y (op_eqlF rfl rfl (by omega)) rfl rfl ?_ | refine SL.y (op_eql rfl rfl) rfl rfl ?_
    refine SL.y (op_assign rfl) rfl rfl ?_
    refine SL.nil ?_
    refine T.condF rfl ?_
    refine T.skip ?_
    refine T.blk ?_
    refine T.seq ?_
    refine T.region ?_
    refine SL.y (op_assign (v := .int .i64 ((7 : Nat) : Int)) rfl) rfl rfl ?_
    refine SL.nil ?_
    refine T.ret1 rfl (ResIs.tmp rfl) ?_
    rw [strN, if_neg h1, if_neg h2, if_neg h3, if_neg h4, if_neg h5, if_neg h6]
theorem nil_bytes (s : ByteArray) : (⟨#[]⟩ : ByteArray) ++ s = s := by
  apply ByteArray.ext
  simp
theorem bytes_nil (s : ByteArray) : s ++ (⟨#[]⟩ : ByteArray) = s := by
  apply ByteArray.ext
  simp
theorem joinG_snoc : ∀ (l : List ByteArray) (s : ByteArray), l ≠ [] → joinG (l ++ [s]) = joinG l ++ [44, 32] ++ s.data.toList
  | a :: l, s, _ => by simp [joinG]
theorem joinB_snoc (l : List ByteArray) (s : ByteArray) (h : l ≠ []) : joinB (l ++ [s]) = joinB l ++ ⟨#[44, 32]⟩ ++ s := by
  apply ByteArray.ext
  simp [joinB, joinG_snoc l s h]
theorem joinB_one (s : ByteArray) : joinB [s] = ⟨#[]⟩ ++ s := by
  apply ByteArray.ext
  simp [joinB, joinG]
theorem wtS_take (l : List ByteArray) (i : Nat) : wtS (l.take i) ≤ wtS l := by
  have : wtS (l.take i ++ l.drop i) = wtS (l.take i) + wtS (l.drop i) := by simp only [wtS, List.map_append, List.sum_append]
  rw [List.take_append_drop] at this; omega
theorem joined_spec {X : PMap} {v : Value} {l : List ByteArray} (h : RowR strC X v l) (hl : wtS l < 1000000) : Spec Tryz.prog 53 [v] X fun u _ => u = .string (joinB l) := by
  obtain ⟨A, cp, rfl⟩ := h.form
  have hmx : maxLen = 9223372036854775807 := rfl
  have hln := wtS_len l
  have k1 : (⟨#[44, 32]⟩ : ByteArray).size = 2 := rfl
  refine Spec.enter Tryz.func53 rfl Tryz.ntmps53 rfl ?_
  intro w0 hw0
  refine T.seq ?_
  refine T.region ?_
  refine SL.y (op_assign rfl) rfl rfl ?_
  refine SL.nil ?_
  refine T.seq ?_
  refine T.region ?_
  refine SL.y (op_assign rfl) rfl rfl ?_
  refine SL.nil ?_
  refine T.seq ?_
  refine T.seq ?_
  refine T.region ?_
  refine SL.y (op_move rfl) rfl rfl ?_
  refine SL.y (op_lenS Tryz.underlying32 rfl) rfl rfl ?_
  refine SL.y (op_move (v := .int .i64 ((0 : Nat) : Int)) rfl) rfl rfl ?_
  refine SL.nil ?_
  refine T.block ?_
  refine T.loopW (fun m env own X' => ∃ i : Nat, m = l.length - i ∧ i ≤ l.length ∧ X.le X' ∧ env = [(3, .string (joinB (l.take i))), (6, .slice A l.length cp), (7, .int .i64 (l.length : Int)), (8, .int .i64 (i : Int))] ∧ own = []) l.length ⟨0, by simp, by omega, PMap.le_refl _, rfl, rfl⟩ (by repeat (first | exact Sub.nil | refine Sub.cons rfl ?_)) ?_
  rintro m _ _ X1 ⟨i, rfl, hi, hX1, rfl, rfl⟩
  rcases Nat.lt_or_ge i l.length with hil | hil
  · obtain ⟨x, hx⟩ : ∃ x, l[i]? = some x := ⟨_, List.getElem?_eq_getElem hil⟩
    obtain ⟨b, pre, rfl, hB⟩ := h.blk (by omega)
    have hts := take_snoc hx
    have hj := joinB_size (l.take i)
    have hw := wtS_take l i
    have hxs := wtS_mem (List.mem_of_getElem? hx)
    have k0 : (⟨#[]⟩ : ByteArray).size = 0 := rfl
    rcases Nat.eq_zero_or_pos i with h0 | h0
    · subst h0
      rw [show l.take 0 = [] from rfl, show joinB [] = ⟨#[]⟩ from rfl]
      rw [show l.take 0 = [] from rfl, List.nil_append] at hts
      refine T.seq ?_
      refine T.region ?_
      first | refine SL.y (op_lssT rfl rfl (by omega)) rfl rfl ?_ | refine SL.y (op_lssF rfl rfl (by omega)) rfl rfl ?_ | refine SL.y (op_lss rfl rfl) rfl rfl ?_
      refine SL.nil ?_
      refine T.seq ?_
      refine T.condT rfl ?_
      refine T.skip ?_
      refine T.seq ?_
      refine T.block ?_
      refine T.seq ?_
      refine T.region ?_
      refine SL.y (op_move rfl) rfl rfl ?_
      first | refine SL.y (op_indexN Tryz.underlying32 ty9 rfl rfl (by omega)) rfl rfl ?_ | refine SL.y (op_index Tryz.underlying32 ty9 rfl rfl (by omega) (by omega)) rfl rfl ?_
      refine SL.y (op_loadX ty9 rfl (hB.mono hX1) (str_read hx (by omega))) rfl rfl ?_
      refine SL.y (op_assign rfl) rfl rfl ?_
      refine SL.y (op_assign rfl) rfl rfl ?_
      refine SL.nil ?_
      refine T.seq ?_
      refine T.seq ?_
      refine T.region ?_
      refine SL.y (op_move rfl) rfl rfl ?_
      first | refine SL.y (op_gtrT rfl rfl (by omega)) rfl rfl ?_ | refine SL.y (op_gtrF rfl rfl (by omega)) rfl rfl ?_ | refine SL.y (op_gtr rfl rfl) rfl rfl ?_
      refine SL.nil ?_
      refine T.condF rfl ?_
      refine T.skip ?_
      refine T.region ?_
      refine SL.y (op_move rfl) rfl rfl ?_
      refine SL.y (op_move rfl) rfl rfl ?_
      refine SL.y (op_addStr rfl rfl (by first | omega | (simp only [ByteArray.size_append]; omega))) rfl rfl ?_
      refine SL.y (op_assign rfl) rfl rfl ?_
      refine SL.nil ?_
      refine T.blk ?_
      refine T.region ?_
      first | refine SL.y (op_addN (q := 1) rfl rfl (by omega)) rfl rfl ?_ | refine SL.y (op_add rfl rfl (by omega) (by omega)) rfl rfl ?_ | refine SL.y (op_addW rfl rfl) rfl rfl ?_
      refine SL.y (op_move rfl) rfl rfl ?_
      refine SL.nil ?_
      exact T.backW (l.length - (0 + 1)) (by omega) ⟨0 + 1, rfl, by omega, hX1, by rw [hts, joinB_one], rfl⟩ (by repeat (first | exact Sub.nil | refine Sub.cons rfl ?_))
    · have hne : l.take i ≠ [] := fun e => by have := congrArg List.length e; rw [List.length_take, List.length_nil] at this; omega
      refine T.seq ?_
      refine T.region ?_
      first | refine SL.y (op_lssT rfl rfl (by omega)) rfl rfl ?_ | refine SL.y (op_lssF rfl rfl (by omega)) rfl rfl ?_ | refine SL.y (op_lss rfl rfl) rfl rfl ?_
      refine SL.nil ?_
      refine T.seq ?_
      refine T.condT rfl ?_
      refine T.skip ?_
      refine T.seq ?_
      refine T.block ?_
      refine T.seq ?_
      refine T.region ?_
      refine SL.y (op_move rfl) rfl rfl ?_
      first | refine SL.y (op_indexN Tryz.underlying32 ty9 rfl rfl (by omega)) rfl rfl ?_ | refine SL.y (op_index Tryz.underlying32 ty9 rfl rfl (by omega) (by omega)) rfl rfl ?_
      refine SL.y (op_loadX ty9 rfl (hB.mono hX1) (str_read hx (by omega))) rfl rfl ?_
      refine SL.y (op_assign rfl) rfl rfl ?_
      refine SL.y (op_assign rfl) rfl rfl ?_
      refine SL.nil ?_
      refine T.seq ?_
      refine T.seq ?_
      refine T.region ?_
      refine SL.y (op_move rfl) rfl rfl ?_
      first | refine SL.y (op_gtrT rfl rfl (by omega)) rfl rfl ?_ | refine SL.y (op_gtrF rfl rfl (by omega)) rfl rfl ?_ | refine SL.y (op_gtr rfl rfl) rfl rfl ?_
      refine SL.nil ?_
      refine T.condT rfl ?_
      refine T.region ?_
      refine SL.y (op_move rfl) rfl rfl ?_
      refine SL.y (op_addStr rfl rfl (by first | omega | (simp only [ByteArray.size_append]; omega))) rfl rfl ?_
      refine SL.y (op_assign rfl) rfl rfl ?_
      refine SL.nil ?_
      refine T.region ?_
      refine SL.y (op_move rfl) rfl rfl ?_
      refine SL.y (op_move rfl) rfl rfl ?_
      refine SL.y (op_addStr rfl rfl (by first | omega | (simp only [ByteArray.size_append]; omega))) rfl rfl ?_
      refine SL.y (op_assign rfl) rfl rfl ?_
      refine SL.nil ?_
      refine T.blk ?_
      refine T.region ?_
      first | refine SL.y (op_addN (q := 1) rfl rfl (by omega)) rfl rfl ?_ | refine SL.y (op_add rfl rfl (by omega) (by omega)) rfl rfl ?_ | refine SL.y (op_addW rfl rfl) rfl rfl ?_
      refine SL.y (op_move rfl) rfl rfl ?_
      refine SL.nil ?_
      exact T.backW (l.length - (i + 1)) (by omega) ⟨i + 1, rfl, by omega, hX1, by rw [hts, joinB_snoc _ _ hne], rfl⟩ (by repeat (first | exact Sub.nil | refine Sub.cons rfl ?_))
  · obtain rfl : i = l.length := by omega
    rw [List.take_length]
    refine T.seq ?_
    refine T.region ?_
    first | refine SL.y (op_lssT rfl rfl (by omega)) rfl rfl ?_ | refine SL.y (op_lssF rfl rfl (by omega)) rfl rfl ?_ | refine SL.y (op_lss rfl rfl) rfl rfl ?_
    refine SL.nil ?_
    refine T.seq ?_
    refine T.condF rfl ?_
    refine T.exit (T.exitCode (T.exitCut (T.exitBlk ?_)))
    refine T.seq ?_
    refine T.region ?_
    refine SL.y (op_move rfl) rfl rfl ?_
    refine SL.y (op_assign rfl) rfl rfl ?_
    refine SL.nil ?_
    refine T.ret1 rfl (ResIs.tmp rfl) ?_
    rfl
theorem decG_more : ∀ (f g v : Nat), v < 10 ^ f → 0 < f → f ≤ g → decG g v = decG f v
  | 0, _, _, _, h, _ => by omega
  | f + 1, 0, _, _, _, h => by omega
  | f + 1, g + 1, v, h, _, hg => by
    rw [decG, decG]
    by_cases hv : v < 10
    · rw [if_pos hv, if_pos hv]
    · have h1 : v / 10 < 10 ^ f := by rw [Nat.pow_succ] at h; omega
      have hf0 : 0 < f := Nat.pos_of_ne_zero fun e => by subst e; simp at h1; omega
      rw [if_neg hv, if_neg hv, decG_more f g _ h1 hf0 (by omega)]
theorem decB_step {v : Nat} (hv : v ≤ 999999999) (h0 : 10 ≤ v) : decB v = decB (v / 10) ++ ⟨#[UInt8.ofNat (48 + v % 10)]⟩ := by
  apply ByteArray.ext
  have e : decG 20 v = decG 19 (v / 10) ++ [UInt8.ofNat (48 + v % 10)] := by rw [decG, if_neg (by omega)]
  have e2 := decG_more 19 20 (v / 10) (by omega) (by omega) (by omega)
  simp [decB, e, e2]
theorem decB_digit {v : Nat} (h : v < 10) : decB v = ⟨#[UInt8.ofNat (48 + v)]⟩ := by rw [decB, decG, if_pos h]
theorem dec_spec {X : PMap} {v : Nat} (hv : v ≤ 999999999) : Spec Tryz.prog 14 [.int .i64 (v : Int)] X fun u _ => u = .string (decB v) := by
  have hmx : maxLen = 9223372036854775807 := rfl
  refine Spec.enter Tryz.func14 rfl Tryz.ntmps14 rfl ?_
  intro w0 hw0
  refine T.seq ?_
  refine T.region ?_
  refine SL.y (op_assign rfl) rfl rfl ?_
  refine SL.nil ?_
  refine T.seq ?_
  refine T.region ?_
  refine SL.y (op_assign rfl) rfl rfl ?_
  refine SL.nil ?_
  refine T.seq ?_
  refine T.block ?_
  refine T.loopW (fun m env own X' => ∃ (q : Nat) (s : ByteArray), q ≤ v ∧ ((s = ⟨#[]⟩ ∧ q = v ∧ m = v + 1) ∨ (s.size ≠ 0 ∧ m = q ∧ s.size ≤ 20 + v - q ∧ decB v = (if q = 0 then ⟨#[]⟩ else decB q) ++ s)) ∧ X.le X' ∧ env = [(0, .int .i64 (q : Int)), (3, .string s)] ∧ own = []) (v + 1) ⟨v, _, Nat.le_refl _, .inl ⟨rfl, rfl, rfl⟩, PMap.le_refl _, rfl, rfl⟩ (by repeat (first | exact Sub.nil | refine Sub.cons rfl ?_)) ?_
  rintro m _ _ X1 ⟨q, s, hq, hs, hX1, rfl, rfl⟩
  have step : ∀ (_ : s = ⟨#[]⟩ ∧ q = v ∨ 0 < q ∧ s.size ≠ 0 ∧ decB v = decB q ++ s), decB v = (if q / 10 = 0 then ⟨#[]⟩ else decB (q / 10)) ++ (⟨#[UInt8.ofNat (48 + q % 10)]⟩ ++ s) := by
    have base : decB q = (if q / 10 = 0 then ⟨#[]⟩ else decB (q / 10)) ++ ⟨#[UInt8.ofNat (48 + q % 10)]⟩ := by
      by_cases h10 : q < 10
      · rw [if_pos (by omega), decB_digit h10, Nat.mod_eq_of_lt h10, nil_bytes]
      · rw [if_neg (by omega), decB_step (by omega) (by omega)]
    rintro (⟨rfl, rfl⟩ | ⟨h1, h2, h3⟩)
    · rw [base, bytes_nil]
    · rw [h3, base, ByteArray.append_assoc]
  have k1 : (⟨#[UInt8.ofNat (48 + q % 10)]⟩ : ByteArray).size = 1 := rfl
  have hq10 : q % 10 < 10 := Nat.mod_lt _ (by omega)
  have kc : ((UInt8.ofNat (48 + q % 10)).toNat : Int) = ((48 + q % 10 : Nat) : Int) := by
    rw [UInt8.toNat_ofNat']; omega
  have hsz : s.size ≤ 20 + v - q := by
    rcases hs with ⟨rfl, rfl, _⟩ | ⟨_, _, h, _⟩
    · exact Nat.zero_le _
    · exact h
  have hsz2 : (⟨#[UInt8.ofNat (48 + q % 10)]⟩ ++ s : ByteArray).size = s.size + 1 := by rw [ByteArray.size_append, k1]; omega
  have hnew : ∀ _ : s = ⟨#[]⟩ ∧ q = v ∨ 0 < q ∧ s.size ≠ 0 ∧ decB v = decB q ++ s, (⟨#[UInt8.ofNat (48 + q % 10)]⟩ ++ s : ByteArray).size ≠ 0 ∧ q / 10 = q / 10 ∧ (⟨#[UInt8.ofNat (48 + q % 10)]⟩ ++ s : ByteArray).size ≤ 20 + v - q / 10 ∧ decB v = (if q / 10 = 0 then ⟨#[]⟩ else decB (q / 10)) ++ (⟨#[UInt8.ofNat (48 + q % 10)]⟩ ++ s) := fun h => by
    refine ⟨by omega, rfl, ?_, step h⟩
    rcases h with ⟨rfl, rfl⟩ | ⟨h1, _⟩
    · rw [hsz2]; show 0 + 1 ≤ _; omega
    · omega
  by_cases hemp : s = ⟨#[]⟩
  · subst hemp
    have hqv : q = v ∧ m = v + 1 := by
      rcases hs with ⟨_, h1, h2⟩ | ⟨h, _⟩
      · exact ⟨h1, h2⟩
      · exact absurd rfl h
    have hn := hnew (.inl ⟨rfl, hqv.1⟩)
    refine T.seq ?_
    refine T.seq ?_
    refine T.region ?_
    refine SL.y (op_move rfl) rfl rfl ?_
    refine SL.y (op_eqlStrD rfl rfl) rfl rfl ?_
    refine SL.y (op_move rfl) rfl rfl ?_
    first | refine SL.skip rfl rfl ?_ | refine SL.y (op_move rfl) rfl rfl ?_
    first | refine SL.skip rfl rfl ?_ | refine SL.y (op_gtrT rfl rfl (by omega)) rfl rfl ?_ | refine SL.y (op_gtrF rfl rfl (by omega)) rfl rfl ?_ | refine SL.y (op_gtr rfl rfl) rfl rfl ?_
    first | refine SL.y (op_pickT rfl rfl) rfl rfl ?_ | refine SL.y (op_pickF rfl rfl) rfl rfl ?_ | refine SL.y (op_pickB rfl rfl rfl) rfl rfl ?_
    refine SL.nil ?_
    rw [decide_eq_true rfl]
    refine T.condT rfl ?_
    refine T.skip ?_
    refine T.block ?_
    refine T.seq ?_
    refine T.region ?_
    refine SL.y (op_move rfl) rfl rfl ?_
    first | refine SL.y (op_remS (q := 10) rfl rfl rfl (by omega)) rfl rfl ?_ | refine SL.y (op_remN (q := 10) rfl rfl rfl (by decide)) rfl rfl ?_ | refine SL.y (op_rem rfl rfl (by omega) (by omega)) rfl rfl ?_
    first | refine SL.y (op_addN (p := 48) rfl rfl (by omega)) rfl rfl ?_ | refine SL.y (op_add rfl rfl (by omega) (by omega)) rfl rfl ?_ | refine SL.y (op_addW rfl rfl) rfl rfl ?_
    first | refine SL.y (op_convU8 Tryz.underlying3 Tryz.underlying5 rfl (by omega) (by omega)) rfl rfl ?_ | refine SL.y (op_convert Tryz.underlying3 Tryz.underlying5 rfl) rfl rfl ?_
    refine SL.x (op_buildSlice Tryz.underlying60 bs5 (qs := [(0, _)]) rfl rfl rfl rfl rfl) rfl rfl ?_
    rintro _ _ _ ⟨B14, rfl, rfl, rfl⟩
    refine SL.y (op_str1 (c := UInt8.ofNat (48 + q % 10)) Tryz.underlying60 Tryz.underlying5 Tryz.underlying9 rfl (by rw [← kc]; exact AtO.here)) rfl rfl ?_
    refine SL.y (op_move rfl) rfl rfl ?_
    refine SL.y (op_addStr rfl rfl (by first | omega | (simp only [ByteArray.size_append]; omega))) rfl rfl ?_
    refine SL.y (op_assign rfl) rfl rfl ?_
    refine SL.nil ?_
    refine T.region ?_
    refine SL.y (op_move rfl) rfl rfl ?_
    first | refine SL.y (op_quo0 (q := 10) rfl rfl rfl (by omega) (by omega)) rfl rfl ?_ | refine SL.y (op_quoN (q := 10) rfl rfl rfl (by omega) (by decide)) rfl rfl ?_ | refine SL.y (op_quo rfl rfl (by omega) (by omega) (by omega)) rfl rfl ?_
    refine SL.y (op_assign rfl) rfl rfl ?_
    refine SL.nil ?_
    refine T.blk ?_
    refine T.drop B14 (by repeat constructor) ?_
    exact T.backW (q / 10) (by omega) ⟨q / 10, _, by omega, .inr hn, hX1, rfl, rfl⟩ (by repeat (first | exact Sub.nil | refine Sub.cons rfl ?_))
  · have hs2 : s.size ≠ 0 ∧ m = q ∧ s.size ≤ 20 + v - q ∧ decB v = (if q = 0 then ⟨#[]⟩ else decB q) ++ s := by
      rcases hs with ⟨h, _⟩ | h
      · exact absurd h hemp
      · exact h
    obtain ⟨g1, rfl, g3, g4⟩ := hs2
    rcases Nat.eq_zero_or_pos m with h0 | h0
    · subst h0
      rw [if_pos rfl, nil_bytes] at g4
      refine T.seq ?_
      refine T.seq ?_
      refine T.region ?_
      refine SL.y (op_move rfl) rfl rfl ?_
      refine SL.y (op_eqlStrD rfl rfl) rfl rfl ?_
      rw [decide_eq_false hemp]
      refine SL.y (op_move rfl) rfl rfl ?_
      first | refine SL.skip rfl rfl ?_ | refine SL.y (op_move rfl) rfl rfl ?_
      first | refine SL.skip rfl rfl ?_ | refine SL.y (op_gtrT rfl rfl (by omega)) rfl rfl ?_ | refine SL.y (op_gtrF rfl rfl (by omega)) rfl rfl ?_ | refine SL.y (op_gtr rfl rfl) rfl rfl ?_
      first | refine SL.y (op_pickT rfl rfl) rfl rfl ?_ | refine SL.y (op_pickF rfl rfl) rfl rfl ?_ | refine SL.y (op_pickB rfl rfl rfl) rfl rfl ?_
      refine SL.nil ?_
      refine T.condF rfl ?_
      refine T.exit (T.exitCode (T.exitCut (T.exitBlk ?_)))
      refine T.seq ?_
      refine T.region ?_
      refine SL.y (op_move rfl) rfl rfl ?_
      refine SL.y (op_assign rfl) rfl rfl ?_
      refine SL.nil ?_
      refine T.ret1 rfl (ResIs.tmp rfl) ?_
      rw [g4]
    · have hn := hnew (.inr ⟨h0, g1, by rw [if_neg (by omega)] at g4; exact g4⟩)
      refine T.seq ?_
      refine T.seq ?_
      refine T.region ?_
      refine SL.y (op_move rfl) rfl rfl ?_
      refine SL.y (op_eqlStrD rfl rfl) rfl rfl ?_
      rw [decide_eq_false hemp]
      refine SL.y (op_move rfl) rfl rfl ?_
      first | refine SL.skip rfl rfl ?_ | refine SL.y (op_move rfl) rfl rfl ?_
      first | refine SL.skip rfl rfl ?_ | refine SL.y (op_gtrT rfl rfl (by omega)) rfl rfl ?_ | refine SL.y (op_gtrF rfl rfl (by omega)) rfl rfl ?_ | refine SL.y (op_gtr rfl rfl) rfl rfl ?_
      first | refine SL.y (op_pickT rfl rfl) rfl rfl ?_ | refine SL.y (op_pickF rfl rfl) rfl rfl ?_ | refine SL.y (op_pickB rfl rfl rfl) rfl rfl ?_
      refine SL.nil ?_
      refine T.condT rfl ?_
      refine T.skip ?_
      refine T.block ?_
      refine T.seq ?_
      refine T.region ?_
      refine SL.y (op_move rfl) rfl rfl ?_
      first | refine SL.y (op_remS (q := 10) rfl rfl rfl (by omega)) rfl rfl ?_ | refine SL.y (op_remN (q := 10) rfl rfl rfl (by decide)) rfl rfl ?_ | refine SL.y (op_rem rfl rfl (by omega) (by omega)) rfl rfl ?_
      first | refine SL.y (op_addN (p := 48) rfl rfl (by omega)) rfl rfl ?_ | refine SL.y (op_add rfl rfl (by omega) (by omega)) rfl rfl ?_ | refine SL.y (op_addW rfl rfl) rfl rfl ?_
      first | refine SL.y (op_convU8 Tryz.underlying3 Tryz.underlying5 rfl (by omega) (by omega)) rfl rfl ?_ | refine SL.y (op_convert Tryz.underlying3 Tryz.underlying5 rfl) rfl rfl ?_
      refine SL.x (op_buildSlice Tryz.underlying60 bs5 (qs := [(0, _)]) rfl rfl rfl rfl rfl) rfl rfl ?_
      rintro _ _ _ ⟨B14, rfl, rfl, rfl⟩
      refine SL.y (op_str1 (c := UInt8.ofNat (48 + m % 10)) Tryz.underlying60 Tryz.underlying5 Tryz.underlying9 rfl (by rw [← kc]; exact AtO.here)) rfl rfl ?_
      refine SL.y (op_move rfl) rfl rfl ?_
      refine SL.y (op_addStr rfl rfl (by first | omega | (simp only [ByteArray.size_append]; omega))) rfl rfl ?_
      refine SL.y (op_assign rfl) rfl rfl ?_
      refine SL.nil ?_
      refine T.region ?_
      refine SL.y (op_move rfl) rfl rfl ?_
      first | refine SL.y (op_quo0 (q := 10) rfl rfl rfl (by omega) (by omega)) rfl rfl ?_ | refine SL.y (op_quoN (q := 10) rfl rfl rfl (by omega) (by decide)) rfl rfl ?_ | refine SL.y (op_quo rfl rfl (by omega) (by omega) (by omega)) rfl rfl ?_
      refine SL.y (op_assign rfl) rfl rfl ?_
      refine SL.nil ?_
      refine T.blk ?_
      refine T.drop B14 (by repeat constructor) ?_
      exact T.backW (m / 10) (by omega) ⟨m / 10, _, by omega, .inr hn, hX1, rfl, rfl⟩ (by repeat (first | exact Sub.nil | refine Sub.cons rfl ?_))
theorem roperand_spec {X : PMap} {e : Ex} {r : Row4} {least : Nat} (hr : ExR .i64 X e r) (ht : ∀ {X' : PMap}, X.le X' → Spec Tryz.prog 32 [.agg #[r.1, r.2.1, r.2.2.1, r.2.2.2]] X' fun u _ => u = .string (textE e)) (hs : (textE e).size < 1000000000000) : Spec Tryz.prog 54 [.agg #[r.1, r.2.1, r.2.2.1, r.2.2.2], .int .i64 (least : Int)] X fun u _ => u = .string (parB (strN e.op) (textE e) least) := by
  have k1 : (⟨#[40]⟩ : ByteArray).size = 1 := rfl
  have k2 : (⟨#[41]⟩ : ByteArray).size = 1 := rfl
  cases hr with
  | @mk op n ns al vn va rows hn ha hl hr =>
  obtain ⟨Aa, ca, rfl⟩ := ha.form
  obtain ⟨An, cn, rfl⟩ := hn.form
  by_cases hc : strN op < least
  · refine Spec.enter Tryz.func54 rfl Tryz.ntmps54 rfl ?_
    intro w0 hw0
    refine T.seq ?_
    refine T.region ?_
    refine SL.x (op_box rfl) rfl rfl ?_
    rintro _ _ _ ⟨B2, rfl, rfl, rfl⟩
    refine SL.y (op_assign rfl) rfl rfl ?_
    refine SL.nil ?_
    refine T.seq ?_
    refine T.seq ?_
    refine T.region ?_
    refine SL.y (op_fieldAddr fa50_0 rfl) rfl rfl ?_
    first | refine SL.y (op_load ty3 rfl (by repeat constructor) rfl) rfl rfl ?_ | refine SL.y (op_loadX ty3 rfl (by assumption) rfl) rfl rfl ?_
    refine SL.x (op_callF en55 (vs := [_]) rfl (binds_spec (op := op))) rfl rfl ?_
    rintro _ _ X1 ⟨rfl, hX1, rfl⟩
    refine SL.y (op_move rfl) rfl rfl ?_
    first | refine SL.y (op_lssT rfl rfl (by omega)) rfl rfl ?_ | refine SL.y (op_lssF rfl rfl (by omega)) rfl rfl ?_ | refine SL.y (op_lss rfl rfl) rfl rfl ?_
    refine SL.nil ?_
    refine T.condT rfl ?_
    refine T.seq ?_
    refine T.region ?_
    first | refine SL.y (op_load ty50 rfl (by repeat constructor) rfl) rfl rfl ?_ | refine SL.y (op_loadX ty50 rfl (by assumption) rfl) rfl rfl ?_
    refine SL.x (op_callF en32 (vs := [_]) rfl (ht hX1)) rfl rfl ?_
    rintro _ _ X2 ⟨rfl, hX2, rfl⟩
    refine SL.y (op_addStr rfl rfl (by first | omega | (simp only [ByteArray.size_append]; omega))) rfl rfl ?_
    refine SL.y (op_addStr rfl rfl (by first | omega | (simp only [ByteArray.size_append]; omega))) rfl rfl ?_
    refine SL.y (op_assign rfl) rfl rfl ?_
    refine SL.nil ?_
    refine T.ret1 rfl (ResIs.tmp rfl) ?_
    rw [parB, Ex.op, if_pos hc]
  · refine Spec.enter Tryz.func54 rfl Tryz.ntmps54 rfl ?_
    intro w0 hw0
    refine T.seq ?_
    refine T.region ?_
    refine SL.x (op_box rfl) rfl rfl ?_
    rintro _ _ _ ⟨B2, rfl, rfl, rfl⟩
    refine SL.y (op_assign rfl) rfl rfl ?_
    refine SL.nil ?_
    refine T.seq ?_
    refine T.seq ?_
    refine T.region ?_
    refine SL.y (op_fieldAddr fa50_0 rfl) rfl rfl ?_
    first | refine SL.y (op_load ty3 rfl (by repeat constructor) rfl) rfl rfl ?_ | refine SL.y (op_loadX ty3 rfl (by assumption) rfl) rfl rfl ?_
    refine SL.x (op_callF en55 (vs := [_]) rfl (binds_spec (op := op))) rfl rfl ?_
    rintro _ _ X1 ⟨rfl, hX1, rfl⟩
    refine SL.y (op_move rfl) rfl rfl ?_
    first | refine SL.y (op_lssT rfl rfl (by omega)) rfl rfl ?_ | refine SL.y (op_lssF rfl rfl (by omega)) rfl rfl ?_ | refine SL.y (op_lss rfl rfl) rfl rfl ?_
    refine SL.nil ?_
    refine T.condF rfl ?_
    refine T.skip ?_
    refine T.seq ?_
    refine T.region ?_
    first | refine SL.y (op_load ty50 rfl (by repeat constructor) rfl) rfl rfl ?_ | refine SL.y (op_loadX ty50 rfl (by assumption) rfl) rfl rfl ?_
    refine SL.x (op_callF en32 (vs := [_]) rfl (ht hX1)) rfl rfl ?_
    rintro _ _ X2 ⟨rfl, hX2, rfl⟩
    refine SL.y (op_assign rfl) rfl rfl ?_
    refine SL.nil ?_
    refine T.ret1 rfl (ResIs.tmp rfl) ?_
    rw [parB, Ex.op, if_neg hc]
def sgnB (op : Nat) : ByteArray := match op with
  | 8 => ⟨#[97, 110, 100]⟩ | 9 => ⟨#[111, 114]⟩ | 10 => ⟨#[45, 62]⟩ | 11 => ⟨#[60, 61]⟩ | 12 => ⟨#[60]⟩ | 13 => ⟨#[62, 61]⟩ | 14 => ⟨#[62]⟩ | 15 => ⟨#[61, 61]⟩ | _ => ⟨#[43]⟩
def signs9 : List ByteArray := [sgnB 8, sgnB 9, sgnB 10, sgnB 11, sgnB 12, sgnB 13, sgnB 14, sgnB 15, sgnB 16]
theorem signs9_at {op : Nat} (h1 : 8 ≤ op) (h2 : op ≤ 16) : signs9[op - 8]? = some (sgnB op) := by
  rcases (by omega : op = 8 ∨ op = 9 ∨ op = 10 ∨ op = 11 ∨ op = 12 ∨ op = 13 ∨ op = 14 ∨ op = 15 ∨ op = 16) with rfl | rfl | rfl | rfl | rfl | rfl | rfl | rfl | rfl <;> rfl
theorem sgn_word {op : Nat} (h1 : 8 ≤ op) (h2 : op ≤ 16) (a b : ByteArray) : a ++ ⟨#[32]⟩ ++ sgnB op ++ ⟨#[32]⟩ ++ b = a ++ wordB op ++ b := by
  have e : (⟨#[32]⟩ : ByteArray) ++ sgnB op ++ ⟨#[32]⟩ = wordB op := by
    rcases (by omega : op = 8 ∨ op = 9 ∨ op = 10 ∨ op = 11 ∨ op = 12 ∨ op = 13 ∨ op = 14 ∨ op = 15 ∨ op = 16) with rfl | rfl | rfl | rfl | rfl | rfl | rfl | rfl | rfl <;> rfl
  rw [← e]
  simp only [ByteArray.append_assoc]
theorem sgnB_size (op : Nat) : (sgnB op).size ≤ 3 := by
  unfold sgnB
  split <;> decide
theorem rtext_spec (N : Nat) : ∀ {X : PMap} {e : Ex} {r : Row4}, wtE e ≤ N → N < 1000000 → nodeE e = 0 → ExR .i64 X e r → Spec Tryz.prog 32 [.agg #[r.1, r.2.1, r.2.2.1, r.2.2.2]] X fun u _ => u = .string (textE e) := by
  induction N with
  | zero => intro X e r h; cases e; rw [wtE] at h; omega
  | succ N ih =>
    intro X e r hN hB hnode h
    have hopd : ∀ {X : PMap} {a : Ex} {r : Row4} {least : Nat}, wtE a ≤ N → nodeE a = 0 → ExR .i64 X a r → Spec Tryz.prog 54 [.agg #[r.1, r.2.1, r.2.2.1, r.2.2.2], .int .i64 (least : Int)] X fun u _ => u = .string (parB (strN a.op) (textE a) least) := fun h1 h2 h4 => roperand_spec h4 (fun hX => ih h1 (by omega) h2 (h4.mono hX)) (Nat.lt_of_le_of_lt (text_size _) (by omega))
    cases h with
    | @mk op n ns al vn va rows hn ha hl hr =>
    obtain ⟨Aa, ca, rfl⟩ := ha.form
    obtain ⟨An, cn, rfl⟩ := hn.form
    have hlen := wtL_len al
    have hnl := wtS_len ns
    rw [wtE] at hN
    obtain ⟨hown, hargs⟩ := node_ok hnode
    obtain ⟨o1, o2, o3, o4, o5, o6, o7, o8, o9⟩ := own_ok hown
    have k1 : (⟨#[99, 111, 117, 110, 116, 40]⟩ : ByteArray).size = 6 := rfl
    have k2 : (⟨#[41]⟩ : ByteArray).size = 1 := rfl
    have k3 : (⟨#[109, 101, 109, 98, 101, 114, 115, 40]⟩ : ByteArray).size = 8 := rfl
    have k4 : (⟨#[110, 111, 116, 32]⟩ : ByteArray).size = 4 := rfl
    have k5 : (⟨#[32]⟩ : ByteArray).size = 1 := rfl
    by_cases c1 : op = 1
    · obtain ⟨v, rfl⟩ := Int.eq_ofNat_of_zero_le o8
      refine Spec.enter Tryz.func32 rfl Tryz.ntmps32 rfl ?_
      intro w0 hw0
      refine T.seq ?_
      refine T.region ?_
      refine SL.x (op_box rfl) rfl rfl ?_
      rintro _ _ _ ⟨B1, rfl, rfl, rfl⟩
      refine SL.y (op_assign rfl) rfl rfl ?_
      refine SL.nil ?_
      refine T.seq ?_
      refine T.seq ?_
      refine T.region ?_
      refine SL.y (op_fieldAddr fa50_0 rfl) rfl rfl ?_
      first | refine SL.y (op_load ty3 rfl (by repeat constructor) rfl) rfl rfl ?_ | refine SL.y (op_loadX ty3 rfl (by assumption) rfl) rfl rfl ?_
      refine SL.nil ?_
      refine T.block ?_
      refine T.seq ?_
      refine T.region ?_
      first | refine SL.y (op_eqlT rfl rfl (by omega)) rfl rfl ?_ | refine SL.y (op_eqlF rfl rfl (by omega)) rfl rfl ?_ | refine SL.y (op_eql rfl rfl) rfl rfl ?_
      refine SL.y (op_assign rfl) rfl rfl ?_
      refine SL.nil ?_
      refine T.condT rfl ?_
      refine T.seq ?_
      refine T.region ?_
      refine SL.y (op_fieldAddr fa50_1 rfl) rfl rfl ?_
      first | refine SL.y (op_load ty3 rfl (by repeat constructor) rfl) rfl rfl ?_ | refine SL.y (op_loadX ty3 rfl (by assumption) rfl) rfl rfl ?_
      refine SL.x (op_callF en14 (vs := [_]) rfl (dec_spec (v := v) (by omega))) rfl rfl ?_
      rintro _ _ X2 ⟨rfl, hX2, rfl⟩
      refine SL.y (op_assign rfl) rfl rfl ?_
      refine SL.nil ?_
      refine T.ret1 rfl (ResIs.tmp rfl) ?_
      rw [textE, if_pos c1]; rfl
    by_cases c2 : op = 2
    · refine Spec.enter Tryz.func32 rfl Tryz.ntmps32 rfl ?_
      intro w0 hw0
      refine T.seq ?_
      refine T.region ?_
      refine SL.x (op_box rfl) rfl rfl ?_
      rintro _ _ _ ⟨B1, rfl, rfl, rfl⟩
      refine SL.y (op_assign rfl) rfl rfl ?_
      refine SL.nil ?_
      refine T.seq ?_
      refine T.seq ?_
      refine T.region ?_
      refine SL.y (op_fieldAddr fa50_0 rfl) rfl rfl ?_
      first | refine SL.y (op_load ty3 rfl (by repeat constructor) rfl) rfl rfl ?_ | refine SL.y (op_loadX ty3 rfl (by assumption) rfl) rfl rfl ?_
      refine SL.nil ?_
      refine T.block ?_
      refine T.seq ?_
      refine T.region ?_
      first | refine SL.y (op_eqlT rfl rfl (by omega)) rfl rfl ?_ | refine SL.y (op_eqlF rfl rfl (by omega)) rfl rfl ?_ | refine SL.y (op_eql rfl rfl) rfl rfl ?_
      refine SL.y (op_assign rfl) rfl rfl ?_
      refine SL.nil ?_
      refine T.condF rfl ?_
      refine T.seq ?_
      refine T.region ?_
      first | refine SL.y (op_eqlT rfl rfl (by omega)) rfl rfl ?_ | refine SL.y (op_eqlF rfl rfl (by omega)) rfl rfl ?_ | refine SL.y (op_eql rfl rfl) rfl rfl ?_
      refine SL.y (op_assign rfl) rfl rfl ?_
      refine SL.nil ?_
      refine T.condT rfl ?_
      refine T.seq ?_
      refine T.region ?_
      refine SL.y (op_assign rfl) rfl rfl ?_
      refine SL.nil ?_
      refine T.ret1 rfl (ResIs.tmp rfl) ?_
      rw [textE, if_neg c1, if_pos c2]
    by_cases c3 : op = 3
    · refine Spec.enter Tryz.func32 rfl Tryz.ntmps32 rfl ?_
      intro w0 hw0
      refine T.seq ?_
      refine T.region ?_
      refine SL.x (op_box rfl) rfl rfl ?_
      rintro _ _ _ ⟨B1, rfl, rfl, rfl⟩
      refine SL.y (op_assign rfl) rfl rfl ?_
      refine SL.nil ?_
      refine T.seq ?_
      refine T.seq ?_
      refine T.region ?_
      refine SL.y (op_fieldAddr fa50_0 rfl) rfl rfl ?_
      first | refine SL.y (op_load ty3 rfl (by repeat constructor) rfl) rfl rfl ?_ | refine SL.y (op_loadX ty3 rfl (by assumption) rfl) rfl rfl ?_
      refine SL.nil ?_
      refine T.block ?_
      refine T.seq ?_
      refine T.region ?_
      first | refine SL.y (op_eqlT rfl rfl (by omega)) rfl rfl ?_ | refine SL.y (op_eqlF rfl rfl (by omega)) rfl rfl ?_ | refine SL.y (op_eql rfl rfl) rfl rfl ?_
      refine SL.y (op_assign rfl) rfl rfl ?_
      refine SL.nil ?_
      refine T.condF rfl ?_
      refine T.seq ?_
      refine T.region ?_
      first | refine SL.y (op_eqlT rfl rfl (by omega)) rfl rfl ?_ | refine SL.y (op_eqlF rfl rfl (by omega)) rfl rfl ?_ | refine SL.y (op_eql rfl rfl) rfl rfl ?_
      refine SL.y (op_assign rfl) rfl rfl ?_
      refine SL.nil ?_
      refine T.condF rfl ?_
      refine T.seq ?_
      refine T.region ?_
      first | refine SL.y (op_eqlT rfl rfl (by omega)) rfl rfl ?_ | refine SL.y (op_eqlF rfl rfl (by omega)) rfl rfl ?_ | refine SL.y (op_eql rfl rfl) rfl rfl ?_
      refine SL.y (op_assign rfl) rfl rfl ?_
      refine SL.nil ?_
      refine T.condT rfl ?_
      refine T.seq ?_
      refine T.region ?_
      refine SL.y (op_assign rfl) rfl rfl ?_
      refine SL.nil ?_
      refine T.ret1 rfl (ResIs.tmp rfl) ?_
      rw [textE, if_neg c1, if_neg c2, if_pos c3]
    by_cases c4 : op = 4
    · have hl1 : ns.length = 1 := by simpa [namN, c4] using o5
      obtain ⟨s, rfl⟩ : ∃ s, ns = [s] := by
        match ns, hl1 with
        | [s], _ => exact ⟨s, rfl⟩
      obtain ⟨bN, pre, rfl, hB1⟩ := hn.blk (by simp)
      refine Spec.enter Tryz.func32 rfl Tryz.ntmps32 rfl ?_
      intro w0 hw0
      refine T.seq ?_
      refine T.region ?_
      refine SL.x (op_box rfl) rfl rfl ?_
      rintro _ _ _ ⟨B1, rfl, rfl, rfl⟩
      refine SL.y (op_assign rfl) rfl rfl ?_
      refine SL.nil ?_
      refine T.seq ?_
      refine T.seq ?_
      refine T.region ?_
      refine SL.y (op_fieldAddr fa50_0 rfl) rfl rfl ?_
      first | refine SL.y (op_load ty3 rfl (by repeat constructor) rfl) rfl rfl ?_ | refine SL.y (op_loadX ty3 rfl (by assumption) rfl) rfl rfl ?_
      refine SL.nil ?_
      refine T.block ?_
      refine T.seq ?_
      refine T.region ?_
      first | refine SL.y (op_eqlT rfl rfl (by omega)) rfl rfl ?_ | refine SL.y (op_eqlF rfl rfl (by omega)) rfl rfl ?_ | refine SL.y (op_eql rfl rfl) rfl rfl ?_
      refine SL.y (op_assign rfl) rfl rfl ?_
      refine SL.nil ?_
      refine T.condF rfl ?_
      refine T.seq ?_
      refine T.region ?_
      first | refine SL.y (op_eqlT rfl rfl (by omega)) rfl rfl ?_ | refine SL.y (op_eqlF rfl rfl (by omega)) rfl rfl ?_ | refine SL.y (op_eql rfl rfl) rfl rfl ?_
      refine SL.y (op_assign rfl) rfl rfl ?_
      refine SL.nil ?_
      refine T.condF rfl ?_
      refine T.seq ?_
      refine T.region ?_
      first | refine SL.y (op_eqlT rfl rfl (by omega)) rfl rfl ?_ | refine SL.y (op_eqlF rfl rfl (by omega)) rfl rfl ?_ | refine SL.y (op_eql rfl rfl) rfl rfl ?_
      refine SL.y (op_assign rfl) rfl rfl ?_
      refine SL.nil ?_
      refine T.condF rfl ?_
      refine T.seq ?_
      refine T.region ?_
      first | refine SL.y (op_eqlT rfl rfl (by omega)) rfl rfl ?_ | refine SL.y (op_eqlF rfl rfl (by omega)) rfl rfl ?_ | refine SL.y (op_eql rfl rfl) rfl rfl ?_
      refine SL.y (op_assign rfl) rfl rfl ?_
      refine SL.nil ?_
      refine T.condT rfl ?_
      refine T.seq ?_
      refine T.region ?_
      refine SL.y (op_fieldAddr fa50_2 rfl) rfl rfl ?_
      first | refine SL.y (op_load ty32 rfl (by repeat constructor) rfl) rfl rfl ?_ | refine SL.y (op_loadX ty32 rfl (by assumption) rfl) rfl rfl ?_
      first | refine SL.y (op_indexN Tryz.underlying32 ty9 rfl rfl (by omega)) rfl rfl ?_ | refine SL.y (op_index Tryz.underlying32 ty9 rfl rfl (by omega) (by omega)) rfl rfl ?_
      refine SL.y (op_loadX ty9 rfl hB1 (str_read (i := 0) rfl (by omega))) rfl rfl ?_
      refine SL.y (op_assign rfl) rfl rfl ?_
      refine SL.nil ?_
      refine T.ret1 rfl (ResIs.tmp rfl) ?_
      rw [textE, if_neg c1, if_neg c2, if_neg c3, if_pos c4]; rfl
    by_cases c5 : op = 5
    · have hj := joinB_size ns
      refine Spec.enter Tryz.func32 rfl Tryz.ntmps32 rfl ?_
      intro w0 hw0
      refine T.seq ?_
      refine T.region ?_
      refine SL.x (op_box rfl) rfl rfl ?_
      rintro _ _ _ ⟨B1, rfl, rfl, rfl⟩
      refine SL.y (op_assign rfl) rfl rfl ?_
      refine SL.nil ?_
      refine T.seq ?_
      refine T.seq ?_
      refine T.region ?_
      refine SL.y (op_fieldAddr fa50_0 rfl) rfl rfl ?_
      first | refine SL.y (op_load ty3 rfl (by repeat constructor) rfl) rfl rfl ?_ | refine SL.y (op_loadX ty3 rfl (by assumption) rfl) rfl rfl ?_
      refine SL.nil ?_
      refine T.block ?_
      refine T.seq ?_
      refine T.region ?_
      first | refine SL.y (op_eqlT rfl rfl (by omega)) rfl rfl ?_ | refine SL.y (op_eqlF rfl rfl (by omega)) rfl rfl ?_ | refine SL.y (op_eql rfl rfl) rfl rfl ?_
      refine SL.y (op_assign rfl) rfl rfl ?_
      refine SL.nil ?_
      refine T.condF rfl ?_
      refine T.seq ?_
      refine T.region ?_
      first | refine SL.y (op_eqlT rfl rfl (by omega)) rfl rfl ?_ | refine SL.y (op_eqlF rfl rfl (by omega)) rfl rfl ?_ | refine SL.y (op_eql rfl rfl) rfl rfl ?_
      refine SL.y (op_assign rfl) rfl rfl ?_
      refine SL.nil ?_
      refine T.condF rfl ?_
      refine T.seq ?_
      refine T.region ?_
      first | refine SL.y (op_eqlT rfl rfl (by omega)) rfl rfl ?_ | refine SL.y (op_eqlF rfl rfl (by omega)) rfl rfl ?_ | refine SL.y (op_eql rfl rfl) rfl rfl ?_
      refine SL.y (op_assign rfl) rfl rfl ?_
      refine SL.nil ?_
      refine T.condF rfl ?_
      refine T.seq ?_
      refine T.region ?_
      first | refine SL.y (op_eqlT rfl rfl (by omega)) rfl rfl ?_ | refine SL.y (op_eqlF rfl rfl (by omega)) rfl rfl ?_ | refine SL.y (op_eql rfl rfl) rfl rfl ?_
      refine SL.y (op_assign rfl) rfl rfl ?_
      refine SL.nil ?_
      refine T.condF rfl ?_
      refine T.seq ?_
      refine T.region ?_
      first | refine SL.y (op_eqlT rfl rfl (by omega)) rfl rfl ?_ | refine SL.y (op_eqlF rfl rfl (by omega)) rfl rfl ?_ | refine SL.y (op_eql rfl rfl) rfl rfl ?_
      refine SL.y (op_assign rfl) rfl rfl ?_
      refine SL.nil ?_
      refine T.condT rfl ?_
      refine T.seq ?_
      refine T.region ?_
      refine SL.y (op_fieldAddr fa50_2 rfl) rfl rfl ?_
      first | refine SL.y (op_load ty32 rfl (by repeat constructor) rfl) rfl rfl ?_ | refine SL.y (op_loadX ty32 rfl (by assumption) rfl) rfl rfl ?_
      refine SL.x (op_callF en53 (vs := [_]) rfl (joined_spec hn (by omega))) rfl rfl ?_
      rintro _ _ X2 ⟨rfl, hX2, rfl⟩
      refine SL.y (op_addStr rfl rfl (by first | omega | (simp only [ByteArray.size_append]; omega))) rfl rfl ?_
      refine SL.y (op_addStr rfl rfl (by first | omega | (simp only [ByteArray.size_append]; omega))) rfl rfl ?_
      refine SL.y (op_assign rfl) rfl rfl ?_
      refine SL.nil ?_
      refine T.ret1 rfl (ResIs.tmp rfl) ?_
      rw [textE, if_neg c1, if_neg c2, if_neg c3, if_neg c4, if_pos c5]
    by_cases c6 : op = 6
    · have hl1 : ns.length = 1 := by simpa [namN, c6] using o5
      obtain ⟨s, rfl⟩ : ∃ s, ns = [s] := by
        match ns, hl1 with
        | [s], _ => exact ⟨s, rfl⟩
      obtain ⟨bN, pre, rfl, hB1⟩ := hn.blk (by simp)
      have hsz := wtS_mem (ns := [s]) (s := s) (by simp)
      refine Spec.enter Tryz.func32 rfl Tryz.ntmps32 rfl ?_
      intro w0 hw0
      refine T.seq ?_
      refine T.region ?_
      refine SL.x (op_box rfl) rfl rfl ?_
      rintro _ _ _ ⟨B1, rfl, rfl, rfl⟩
      refine SL.y (op_assign rfl) rfl rfl ?_
      refine SL.nil ?_
      refine T.seq ?_
      refine T.seq ?_
      refine T.region ?_
      refine SL.y (op_fieldAddr fa50_0 rfl) rfl rfl ?_
      first | refine SL.y (op_load ty3 rfl (by repeat constructor) rfl) rfl rfl ?_ | refine SL.y (op_loadX ty3 rfl (by assumption) rfl) rfl rfl ?_
      refine SL.nil ?_
      refine T.block ?_
      refine T.seq ?_
      refine T.region ?_
      first | refine SL.y (op_eqlT rfl rfl (by omega)) rfl rfl ?_ | refine SL.y (op_eqlF rfl rfl (by omega)) rfl rfl ?_ | refine SL.y (op_eql rfl rfl) rfl rfl ?_
      refine SL.y (op_assign rfl) rfl rfl ?_
      refine SL.nil ?_
      refine T.condF rfl ?_
      refine T.seq ?_
      refine T.region ?_
      first | refine SL.y (op_eqlT rfl rfl (by omega)) rfl rfl ?_ | refine SL.y (op_eqlF rfl rfl (by omega)) rfl rfl ?_ | refine SL.y (op_eql rfl rfl) rfl rfl ?_
      refine SL.y (op_assign rfl) rfl rfl ?_
      refine SL.nil ?_
      refine T.condF rfl ?_
      refine T.seq ?_
      refine T.region ?_
      first | refine SL.y (op_eqlT rfl rfl (by omega)) rfl rfl ?_ | refine SL.y (op_eqlF rfl rfl (by omega)) rfl rfl ?_ | refine SL.y (op_eql rfl rfl) rfl rfl ?_
      refine SL.y (op_assign rfl) rfl rfl ?_
      refine SL.nil ?_
      refine T.condF rfl ?_
      refine T.seq ?_
      refine T.region ?_
      first | refine SL.y (op_eqlT rfl rfl (by omega)) rfl rfl ?_ | refine SL.y (op_eqlF rfl rfl (by omega)) rfl rfl ?_ | refine SL.y (op_eql rfl rfl) rfl rfl ?_
      refine SL.y (op_assign rfl) rfl rfl ?_
      refine SL.nil ?_
      refine T.condF rfl ?_
      refine T.seq ?_
      refine T.region ?_
      first | refine SL.y (op_eqlT rfl rfl (by omega)) rfl rfl ?_ | refine SL.y (op_eqlF rfl rfl (by omega)) rfl rfl ?_ | refine SL.y (op_eql rfl rfl) rfl rfl ?_
      refine SL.y (op_assign rfl) rfl rfl ?_
      refine SL.nil ?_
      refine T.condF rfl ?_
      refine T.seq ?_
      refine T.region ?_
      first | refine SL.y (op_eqlT rfl rfl (by omega)) rfl rfl ?_ | refine SL.y (op_eqlF rfl rfl (by omega)) rfl rfl ?_ | refine SL.y (op_eql rfl rfl) rfl rfl ?_
      refine SL.y (op_assign rfl) rfl rfl ?_
      refine SL.nil ?_
      refine T.condT rfl ?_
      refine T.seq ?_
      refine T.region ?_
      refine SL.y (op_fieldAddr fa50_2 rfl) rfl rfl ?_
      first | refine SL.y (op_load ty32 rfl (by repeat constructor) rfl) rfl rfl ?_ | refine SL.y (op_loadX ty32 rfl (by assumption) rfl) rfl rfl ?_
      first | refine SL.y (op_indexN Tryz.underlying32 ty9 rfl rfl (by omega)) rfl rfl ?_ | refine SL.y (op_index Tryz.underlying32 ty9 rfl rfl (by omega) (by omega)) rfl rfl ?_
      refine SL.y (op_loadX ty9 rfl hB1 (str_read (i := 0) rfl (by omega))) rfl rfl ?_
      refine SL.y (op_addStr rfl rfl (by first | omega | (simp only [ByteArray.size_append]; omega))) rfl rfl ?_
      refine SL.y (op_addStr rfl rfl (by first | omega | (simp only [ByteArray.size_append]; omega))) rfl rfl ?_
      refine SL.y (op_assign rfl) rfl rfl ?_
      refine SL.nil ?_
      refine T.ret1 rfl (ResIs.tmp rfl) ?_
      rw [textE, if_neg c1, if_neg c2, if_neg c3, if_neg c4, if_neg c5, if_pos c6]; rfl
    by_cases c7 : op = 7
    · have hal : al.length = 1 := by rw [o3, c7]; rfl
      obtain ⟨a, rfl⟩ : ∃ a, al = [a] := by
        match al, hal with
        | [a], _ => exact ⟨a, rfl⟩
      obtain ⟨ra, rfl⟩ : ∃ ra, rows = [ra] := by
        match rows, hl with
        | [ra], _ => exact ⟨ra, rfl⟩
      have hra := hr 0 a ra rfl rfl
      obtain ⟨bA, pre, rfl, hbA⟩ := ha.blk (by simp)
      obtain ⟨_, _, _, _, _, _, _, _, rfl⟩ := hra.form
      have hna := nodeL_zero hargs a (by simp)
      have hwa : wtE a ≤ N := by rw [wtL, wtL] at hN; omega
      have hts := text_size a
      have hps := parB_size (strN a.op) (textE a) 4
      refine Spec.enter Tryz.func32 rfl Tryz.ntmps32 rfl ?_
      intro w0 hw0
      refine T.seq ?_
      refine T.region ?_
      refine SL.x (op_box rfl) rfl rfl ?_
      rintro _ _ _ ⟨B1, rfl, rfl, rfl⟩
      refine SL.y (op_assign rfl) rfl rfl ?_
      refine SL.nil ?_
      refine T.seq ?_
      refine T.seq ?_
      refine T.region ?_
      refine SL.y (op_fieldAddr fa50_0 rfl) rfl rfl ?_
      first | refine SL.y (op_load ty3 rfl (by repeat constructor) rfl) rfl rfl ?_ | refine SL.y (op_loadX ty3 rfl (by assumption) rfl) rfl rfl ?_
      refine SL.nil ?_
      refine T.block ?_
      refine T.seq ?_
      refine T.region ?_
      first | refine SL.y (op_eqlT rfl rfl (by omega)) rfl rfl ?_ | refine SL.y (op_eqlF rfl rfl (by omega)) rfl rfl ?_ | refine SL.y (op_eql rfl rfl) rfl rfl ?_
      refine SL.y (op_assign rfl) rfl rfl ?_
      refine SL.nil ?_
      refine T.condF rfl ?_
      refine T.seq ?_
      refine T.region ?_
      first | refine SL.y (op_eqlT rfl rfl (by omega)) rfl rfl ?_ | refine SL.y (op_eqlF rfl rfl (by omega)) rfl rfl ?_ | refine SL.y (op_eql rfl rfl) rfl rfl ?_
      refine SL.y (op_assign rfl) rfl rfl ?_
      refine SL.nil ?_
      refine T.condF rfl ?_
      refine T.seq ?_
      refine T.region ?_
      first | refine SL.y (op_eqlT rfl rfl (by omega)) rfl rfl ?_ | refine SL.y (op_eqlF rfl rfl (by omega)) rfl rfl ?_ | refine SL.y (op_eql rfl rfl) rfl rfl ?_
      refine SL.y (op_assign rfl) rfl rfl ?_
      refine SL.nil ?_
      refine T.condF rfl ?_
      refine T.seq ?_
      refine T.region ?_
      first | refine SL.y (op_eqlT rfl rfl (by omega)) rfl rfl ?_ | refine SL.y (op_eqlF rfl rfl (by omega)) rfl rfl ?_ | refine SL.y (op_eql rfl rfl) rfl rfl ?_
      refine SL.y (op_assign rfl) rfl rfl ?_
      refine SL.nil ?_
      refine T.condF rfl ?_
      refine T.seq ?_
      refine T.region ?_
      first | refine SL.y (op_eqlT rfl rfl (by omega)) rfl rfl ?_ | refine SL.y (op_eqlF rfl rfl (by omega)) rfl rfl ?_ | refine SL.y (op_eql rfl rfl) rfl rfl ?_
      refine SL.y (op_assign rfl) rfl rfl ?_
      refine SL.nil ?_
      refine T.condF rfl ?_
      refine T.seq ?_
      refine T.region ?_
      first | refine SL.y (op_eqlT rfl rfl (by omega)) rfl rfl ?_ | refine SL.y (op_eqlF rfl rfl (by omega)) rfl rfl ?_ | refine SL.y (op_eql rfl rfl) rfl rfl ?_
      refine SL.y (op_assign rfl) rfl rfl ?_
      refine SL.nil ?_
      refine T.condF rfl ?_
      refine T.seq ?_
      refine T.region ?_
      first | refine SL.y (op_eqlT rfl rfl (by omega)) rfl rfl ?_ | refine SL.y (op_eqlF rfl rfl (by omega)) rfl rfl ?_ | refine SL.y (op_eql rfl rfl) rfl rfl ?_
      refine SL.y (op_assign rfl) rfl rfl ?_
      refine SL.nil ?_
      refine T.condT rfl ?_
      refine T.seq ?_
      refine T.region ?_
      refine SL.y (op_fieldAddr fa50_3 rfl) rfl rfl ?_
      first | refine SL.y (op_load ty48 rfl (by repeat constructor) rfl) rfl rfl ?_ | refine SL.y (op_loadX ty48 rfl (by assumption) rfl) rfl rfl ?_
      first | refine SL.y (op_indexN Tryz.underlying48 ty50 rfl rfl (by omega)) rfl rfl ?_ | refine SL.y (op_index Tryz.underlying48 ty50 rfl rfl (by omega) (by omega)) rfl rfl ?_
      refine SL.y (op_loadX ty50 rfl hbA (row_read rc4_len (rs := [_]) (k := 0) rfl (by omega))) rfl rfl ?_
      refine SL.x (op_callF en54 (vs := [_, _]) rfl (hopd (least := 4) hwa hna hra)) rfl rfl ?_
      rintro _ _ X2 ⟨rfl, hX2, rfl⟩
      refine SL.y (op_addStr rfl rfl (by first | omega | (simp only [ByteArray.size_append]; omega))) rfl rfl ?_
      refine SL.y (op_assign rfl) rfl rfl ?_
      refine SL.nil ?_
      refine T.ret1 rfl (ResIs.tmp rfl) ?_
      rw [textE, if_neg c1, if_neg c2, if_neg c3, if_neg c4, if_neg c5, if_neg c6, textL, textL]
    have hal : al.length = 2 := by rw [o3, argN, if_neg (by omega), if_neg c7]
    obtain ⟨a, a2, rfl⟩ : ∃ a a2, al = [a, a2] := by
      match al, hal with
      | [a, b], _ => exact ⟨a, b, rfl⟩
    obtain ⟨ra, rb, rfl⟩ : ∃ ra rb, rows = [ra, rb] := by
      match rows, hl with
      | [ra, rb], _ => exact ⟨ra, rb, rfl⟩
    have hra := hr 0 a ra rfl rfl
    have hrb := hr 1 a2 rb rfl rfl
    obtain ⟨bA, pre, rfl, hbA⟩ := ha.blk (by simp)
    obtain ⟨_, _, _, _, _, _, _, _, rfl⟩ := hra.form
    obtain ⟨_, _, _, _, _, _, _, _, rfl⟩ := hrb.form
    have hna := nodeL_zero hargs a (by simp)
    have hnb := nodeL_zero hargs a2 (by simp)
    have hwa : wtE a ≤ N ∧ wtE a2 ≤ N := by rw [wtL, wtL, wtL] at hN; omega
    have hts := text_size a
    have hts2 := text_size a2
    have hps := fun k => parB_size (strN a.op) (textE a) k
    have hps2 := fun k => parB_size (strN a2.op) (textE a2) k
    have hps3 := hps (lefN op)
    have hps4 := hps2 (rigN op)
    have hsg := sgnB_size op
    have hs7 := strN_le op
    have hsn := strsC_at (signs9_at (op := op) (by omega) o2)
    have hfin : textE (.mk op n ns [a, a2]) = parB (strN a.op) (textE a) (lefN op) ++ wordB op ++ parB (strN a2.op) (textE a2) (rigN op) := by
      rw [textE, if_neg c1, if_neg c2, if_neg c3, if_neg c4, if_neg c5, if_neg c6, textL, textL, textL]
    rw [hfin, ← sgn_word (by omega) o2]
    by_cases c10 : op = 10
    · have el : lefN op = 2 := by rw [c10]; rfl
      have er : rigN op = 1 := by rw [c10]; rfl
      rw [el] at hps3
      rw [er] at hps4
      rw [el, er]
      refine Spec.enter Tryz.func32 rfl Tryz.ntmps32 rfl ?_
      intro w0 hw0
      refine T.seq ?_
      refine T.region ?_
      refine SL.x (op_box rfl) rfl rfl ?_
      rintro _ _ _ ⟨B1, rfl, rfl, rfl⟩
      refine SL.y (op_assign rfl) rfl rfl ?_
      refine SL.nil ?_
      refine T.seq ?_
      refine T.seq ?_
      refine T.region ?_
      refine SL.y (op_fieldAddr fa50_0 rfl) rfl rfl ?_
      first | refine SL.y (op_load ty3 rfl (by repeat constructor) rfl) rfl rfl ?_ | refine SL.y (op_loadX ty3 rfl (by assumption) rfl) rfl rfl ?_
      refine SL.nil ?_
      refine T.block ?_
      refine T.seq ?_
      refine T.region ?_
      first | refine SL.y (op_eqlT rfl rfl (by omega)) rfl rfl ?_ | refine SL.y (op_eqlF rfl rfl (by omega)) rfl rfl ?_ | refine SL.y (op_eql rfl rfl) rfl rfl ?_
      refine SL.y (op_assign rfl) rfl rfl ?_
      refine SL.nil ?_
      refine T.condF rfl ?_
      refine T.seq ?_
      refine T.region ?_
      first | refine SL.y (op_eqlT rfl rfl (by omega)) rfl rfl ?_ | refine SL.y (op_eqlF rfl rfl (by omega)) rfl rfl ?_ | refine SL.y (op_eql rfl rfl) rfl rfl ?_
      refine SL.y (op_assign rfl) rfl rfl ?_
      refine SL.nil ?_
      refine T.condF rfl ?_
      refine T.seq ?_
      refine T.region ?_
      first | refine SL.y (op_eqlT rfl rfl (by omega)) rfl rfl ?_ | refine SL.y (op_eqlF rfl rfl (by omega)) rfl rfl ?_ | refine SL.y (op_eql rfl rfl) rfl rfl ?_
      refine SL.y (op_assign rfl) rfl rfl ?_
      refine SL.nil ?_
      refine T.condF rfl ?_
      refine T.seq ?_
      refine T.region ?_
      first | refine SL.y (op_eqlT rfl rfl (by omega)) rfl rfl ?_ | refine SL.y (op_eqlF rfl rfl (by omega)) rfl rfl ?_ | refine SL.y (op_eql rfl rfl) rfl rfl ?_
      refine SL.y (op_assign rfl) rfl rfl ?_
      refine SL.nil ?_
      refine T.condF rfl ?_
      refine T.seq ?_
      refine T.region ?_
      first | refine SL.y (op_eqlT rfl rfl (by omega)) rfl rfl ?_ | refine SL.y (op_eqlF rfl rfl (by omega)) rfl rfl ?_ | refine SL.y (op_eql rfl rfl) rfl rfl ?_
      refine SL.y (op_assign rfl) rfl rfl ?_
      refine SL.nil ?_
      refine T.condF rfl ?_
      refine T.seq ?_
      refine T.region ?_
      first | refine SL.y (op_eqlT rfl rfl (by omega)) rfl rfl ?_ | refine SL.y (op_eqlF rfl rfl (by omega)) rfl rfl ?_ | refine SL.y (op_eql rfl rfl) rfl rfl ?_
      refine SL.y (op_assign rfl) rfl rfl ?_
      refine SL.nil ?_
      refine T.condF rfl ?_
      refine T.seq ?_
      refine T.region ?_
      first | refine SL.y (op_eqlT rfl rfl (by omega)) rfl rfl ?_ | refine SL.y (op_eqlF rfl rfl (by omega)) rfl rfl ?_ | refine SL.y (op_eql rfl rfl) rfl rfl ?_
      refine SL.y (op_assign rfl) rfl rfl ?_
      refine SL.nil ?_
      refine T.condF rfl ?_
      refine T.skip ?_
      refine T.blk ?_
      refine T.seq ?_
      refine T.region ?_
      refine SL.x (op_buildSlice Tryz.underlying32 bs9 (qs := [(0, _), (1, _), (2, _), (3, _), (4, _), (5, _), (6, _), (7, _), (8, _)]) rfl rfl rfl rfl rfl) rfl rfl ?_
      rintro _ _ _ ⟨B46, rfl, rfl, rfl⟩
      refine SL.y (op_fieldAddr fa50_0 rfl) rfl rfl ?_
      first | refine SL.y (op_load ty3 rfl (by repeat constructor) rfl) rfl rfl ?_ | refine SL.y (op_loadX ty3 rfl (by assumption) rfl) rfl rfl ?_
      first | refine SL.y (op_subN (q := 8) rfl rfl (by omega) (by omega)) rfl rfl ?_ | refine SL.y (op_sub rfl rfl (by omega) (by omega)) rfl rfl ?_ | refine SL.y (op_subW rfl rfl) rfl rfl ?_
      first | refine SL.y (op_indexN Tryz.underlying32 ty9 rfl rfl (by omega)) rfl rfl ?_ | refine SL.y (op_index Tryz.underlying32 ty9 rfl rfl (by omega) (by omega)) rfl rfl ?_
      refine SL.y (op_load ty9 rfl (by repeat constructor) (cread1k' hsn (by omega))) rfl rfl ?_
      refine SL.y (op_assign rfl) rfl rfl ?_
      refine SL.nil ?_
      refine T.seq ?_
      refine T.draw (by kernel_rfl) 9 [.t 0, .t 1, .t 3, .t 4, .r 2, .r 5, .t 6, .t 7, .t 8] (by kernel_rfl) ?_
      refine SD.take rfl panicBody (op_fieldAddr fa50_0 rfl) rfl rfl ?_
      first | refine SD.take rfl panicBody (op_load ty3 rfl (by repeat constructor) rfl) rfl rfl ?_ | refine SD.take rfl panicBody (op_loadX ty3 rfl (by assumption) rfl) rfl rfl ?_
      refine SD.take rfl panicBody (op_fieldAddr fa50_0 rfl) rfl rfl ?_
      first | refine SD.take rfl panicBody (op_load ty3 rfl (by repeat constructor) rfl) rfl rfl ?_ | refine SD.take rfl panicBody (op_loadX ty3 rfl (by assumption) rfl) rfl rfl ?_
      refine SD.run rfl (op_callF en55 (vs := [_]) rfl (binds_spec (op := op))) rfl rfl ?_
      rintro _ _ X1 ⟨rfl, hX1, rfl⟩
      refine SD.run rfl (op_callF en55 (vs := [_]) rfl (binds_spec (op := op))) rfl rfl ?_
      rintro _ _ X2 ⟨rfl, hX2, rfl⟩
      first | refine SD.take rfl panicBody (op_addN (q := 1) rfl rfl (by omega)) rfl rfl ?_ | refine SD.take rfl panicBody (op_add rfl rfl (by omega) (by omega)) rfl rfl ?_ | refine SD.take rfl panicBody (op_addW rfl rfl) rfl rfl ?_
      refine SD.take rfl panicBody (op_assign rfl) rfl rfl ?_
      refine SD.take rfl panicBody (op_assign rfl) rfl rfl ?_
      refine SD.nil ?_
      show SL _ _ _ _ _ _ _ [] _ _ _
      refine SL.nil ?_
      refine T.seq ?_
      refine T.seq ?_
      refine T.region ?_
      refine SL.y (op_fieldAddr fa50_0 rfl) rfl rfl ?_
      first | refine SL.y (op_load ty3 rfl (by repeat constructor) rfl) rfl rfl ?_ | refine SL.y (op_loadX ty3 rfl (by assumption) rfl) rfl rfl ?_
      first | refine SL.y (op_eqlT rfl rfl (by omega)) rfl rfl ?_ | refine SL.y (op_eqlF rfl rfl (by omega)) rfl rfl ?_ | refine SL.y (op_eql rfl rfl) rfl rfl ?_
      refine SL.nil ?_
      refine T.condT rfl ?_
      refine T.region ?_
      refine SL.y (op_assign (v := .int .i64 ((2 : Nat) : Int)) rfl) rfl rfl ?_
      refine SL.y (op_assign (v := .int .i64 ((1 : Nat) : Int)) rfl) rfl rfl ?_
      refine SL.nil ?_
      refine T.seq ?_
      refine T.seq ?_
      refine T.region ?_
      refine SL.y (op_fieldAddr fa50_0 rfl) rfl rfl ?_
      first | refine SL.y (op_load ty3 rfl (by repeat constructor) rfl) rfl rfl ?_ | refine SL.y (op_loadX ty3 rfl (by assumption) rfl) rfl rfl ?_
      first | refine SL.y (op_geqT rfl rfl (by omega)) rfl rfl ?_ | refine SL.y (op_geqF rfl rfl (by omega)) rfl rfl ?_ | refine SL.y (op_geq rfl rfl) rfl rfl ?_
      refine SL.y (op_move rfl) rfl rfl ?_
      first | refine SL.skip rfl rfl ?_ | refine SL.y (op_fieldAddr fa50_0 rfl) rfl rfl ?_
      first | refine SL.skip rfl rfl ?_ | refine SL.y (op_load ty3 rfl (by repeat constructor) rfl) rfl rfl ?_ | refine SL.y (op_loadX ty3 rfl (by assumption) rfl) rfl rfl ?_
      first | refine SL.skip rfl rfl ?_ | refine SL.y (op_leqT rfl rfl (by omega)) rfl rfl ?_ | refine SL.y (op_leqF rfl rfl (by omega)) rfl rfl ?_ | refine SL.y (op_leq rfl rfl) rfl rfl ?_
      first | refine SL.y (op_pickT rfl rfl) rfl rfl ?_ | refine SL.y (op_pickF rfl rfl) rfl rfl ?_ | refine SL.y (op_pickB rfl rfl rfl) rfl rfl ?_
      refine SL.nil ?_
      refine T.condF rfl ?_
      refine T.skip ?_
      refine T.seq ?_
      refine T.draw (by kernel_rfl) 18 [.t 0, .t 1, .t 2, .t 3, .t 4, .t 7, .t 10, .t 11, .t 12, .t 13, .t 14, .r 5, .t 6, .t 8, .t 9, .r 15, .t 16, .t 17] (by kernel_rfl) ?_
      refine SD.take rfl panicBody (op_fieldAddr fa50_3 rfl) rfl rfl ?_
      first | refine SD.take rfl panicBody (op_load ty48 rfl (by repeat constructor) rfl) rfl rfl ?_ | refine SD.take rfl panicBody (op_loadX ty48 rfl (by assumption) rfl) rfl rfl ?_
      first | refine SD.take rfl panicBody (op_indexN Tryz.underlying48 ty50 rfl rfl (by omega)) rfl rfl ?_ | refine SD.take rfl panicBody (op_index Tryz.underlying48 ty50 rfl rfl (by omega) (by omega)) rfl rfl ?_
      refine SD.take rfl panicBody (op_loadX ty50 rfl (hbA.mono (hX1.trans' hX2)) (row_read rc4_len (rs := [_, _]) (k := 0) rfl (by omega))) rfl rfl ?_
      refine SD.take rfl panicBody (op_move rfl) rfl rfl ?_
      refine SD.take rfl panicBody (op_move rfl) rfl rfl ?_
      refine SD.take rfl panicBody (op_fieldAddr fa50_3 rfl) rfl rfl ?_
      first | refine SD.take rfl panicBody (op_load ty48 rfl (by repeat constructor) rfl) rfl rfl ?_ | refine SD.take rfl panicBody (op_loadX ty48 rfl (by assumption) rfl) rfl rfl ?_
      first | refine SD.take rfl panicBody (op_indexN Tryz.underlying48 ty50 rfl rfl (by omega)) rfl rfl ?_ | refine SD.take rfl panicBody (op_index Tryz.underlying48 ty50 rfl rfl (by omega) (by omega)) rfl rfl ?_
      refine SD.take rfl panicBody (op_loadX ty50 rfl (hbA.mono (hX1.trans' hX2)) (row_read rc4_len (rs := [_, _]) (k := 1) rfl (by omega))) rfl rfl ?_
      refine SD.take rfl panicBody (op_move rfl) rfl rfl ?_
      refine SD.run rfl (op_callF en54 (vs := [_, _]) rfl (hopd (least := 2) hwa.1 hna (hra.mono (hX1.trans' hX2)))) rfl rfl ?_
      rintro _ _ X3 ⟨rfl, hX3, rfl⟩
      refine SD.take rfl panicBody (op_addStr rfl rfl (by first | omega | (simp only [ByteArray.size_append]; omega))) rfl rfl ?_
      refine SD.take rfl panicBody (op_addStr rfl rfl (by first | omega | (simp only [ByteArray.size_append]; omega))) rfl rfl ?_
      refine SD.take rfl panicBody (op_addStr rfl rfl (by first | omega | (simp only [ByteArray.size_append]; omega))) rfl rfl ?_
      refine SD.run rfl (op_callF en54 (vs := [_, _]) rfl (hopd (least := 1) hwa.2 hnb ((hrb.mono (hX1.trans' hX2)).mono hX3))) rfl rfl ?_
      rintro _ _ X5 ⟨rfl, hX5, rfl⟩
      refine SD.take rfl panicBody (op_addStr rfl rfl (by first | omega | (simp only [ByteArray.size_append]; omega))) rfl rfl ?_
      refine SD.take rfl panicBody (op_assign rfl) rfl rfl ?_
      refine SD.nil ?_
      show SL _ _ _ _ _ _ _ [] _ _ _
      refine SL.nil ?_
      refine T.ret1 rfl (ResIs.tmp rfl) ?_
      rfl
    by_cases c5s : 11 ≤ op ∧ op ≤ 15
    · have h5 : strN op = 5 := by unfold strN; rw [if_neg (by omega), if_neg (by omega), if_neg (by omega), if_neg (by omega), if_pos (by omega)]
      have el : lefN op = 6 := by rw [lefN, if_neg c10, if_pos h5, h5]
      have er : rigN op = 6 := by rw [rigN, if_neg c10, h5]
      rw [el] at hps3
      rw [er] at hps4
      rw [el, er]
      obtain ⟨g1, g2⟩ := c5s
      refine Spec.enter Tryz.func32 rfl Tryz.ntmps32 rfl ?_
      intro w0 hw0
      refine T.seq ?_
      refine T.region ?_
      refine SL.x (op_box rfl) rfl rfl ?_
      rintro _ _ _ ⟨B1, rfl, rfl, rfl⟩
      refine SL.y (op_assign rfl) rfl rfl ?_
      refine SL.nil ?_
      refine T.seq ?_
      refine T.seq ?_
      refine T.region ?_
      refine SL.y (op_fieldAddr fa50_0 rfl) rfl rfl ?_
      first | refine SL.y (op_load ty3 rfl (by repeat constructor) rfl) rfl rfl ?_ | refine SL.y (op_loadX ty3 rfl (by assumption) rfl) rfl rfl ?_
      refine SL.nil ?_
      refine T.block ?_
      refine T.seq ?_
      refine T.region ?_
      first | refine SL.y (op_eqlT rfl rfl (by omega)) rfl rfl ?_ | refine SL.y (op_eqlF rfl rfl (by omega)) rfl rfl ?_ | refine SL.y (op_eql rfl rfl) rfl rfl ?_
      refine SL.y (op_assign rfl) rfl rfl ?_
      refine SL.nil ?_
      refine T.condF rfl ?_
      refine T.seq ?_
      refine T.region ?_
      first | refine SL.y (op_eqlT rfl rfl (by omega)) rfl rfl ?_ | refine SL.y (op_eqlF rfl rfl (by omega)) rfl rfl ?_ | refine SL.y (op_eql rfl rfl) rfl rfl ?_
      refine SL.y (op_assign rfl) rfl rfl ?_
      refine SL.nil ?_
      refine T.condF rfl ?_
      refine T.seq ?_
      refine T.region ?_
      first | refine SL.y (op_eqlT rfl rfl (by omega)) rfl rfl ?_ | refine SL.y (op_eqlF rfl rfl (by omega)) rfl rfl ?_ | refine SL.y (op_eql rfl rfl) rfl rfl ?_
      refine SL.y (op_assign rfl) rfl rfl ?_
      refine SL.nil ?_
      refine T.condF rfl ?_
      refine T.seq ?_
      refine T.region ?_
      first | refine SL.y (op_eqlT rfl rfl (by omega)) rfl rfl ?_ | refine SL.y (op_eqlF rfl rfl (by omega)) rfl rfl ?_ | refine SL.y (op_eql rfl rfl) rfl rfl ?_
      refine SL.y (op_assign rfl) rfl rfl ?_
      refine SL.nil ?_
      refine T.condF rfl ?_
      refine T.seq ?_
      refine T.region ?_
      first | refine SL.y (op_eqlT rfl rfl (by omega)) rfl rfl ?_ | refine SL.y (op_eqlF rfl rfl (by omega)) rfl rfl ?_ | refine SL.y (op_eql rfl rfl) rfl rfl ?_
      refine SL.y (op_assign rfl) rfl rfl ?_
      refine SL.nil ?_
      refine T.condF rfl ?_
      refine T.seq ?_
      refine T.region ?_
      first | refine SL.y (op_eqlT rfl rfl (by omega)) rfl rfl ?_ | refine SL.y (op_eqlF rfl rfl (by omega)) rfl rfl ?_ | refine SL.y (op_eql rfl rfl) rfl rfl ?_
      refine SL.y (op_assign rfl) rfl rfl ?_
      refine SL.nil ?_
      refine T.condF rfl ?_
      refine T.seq ?_
      refine T.region ?_
      first | refine SL.y (op_eqlT rfl rfl (by omega)) rfl rfl ?_ | refine SL.y (op_eqlF rfl rfl (by omega)) rfl rfl ?_ | refine SL.y (op_eql rfl rfl) rfl rfl ?_
      refine SL.y (op_assign rfl) rfl rfl ?_
      refine SL.nil ?_
      refine T.condF rfl ?_
      refine T.skip ?_
      refine T.blk ?_
      refine T.seq ?_
      refine T.region ?_
      refine SL.x (op_buildSlice Tryz.underlying32 bs9 (qs := [(0, _), (1, _), (2, _), (3, _), (4, _), (5, _), (6, _), (7, _), (8, _)]) rfl rfl rfl rfl rfl) rfl rfl ?_
      rintro _ _ _ ⟨B46, rfl, rfl, rfl⟩
      refine SL.y (op_fieldAddr fa50_0 rfl) rfl rfl ?_
      first | refine SL.y (op_load ty3 rfl (by repeat constructor) rfl) rfl rfl ?_ | refine SL.y (op_loadX ty3 rfl (by assumption) rfl) rfl rfl ?_
      first | refine SL.y (op_subN (q := 8) rfl rfl (by omega) (by omega)) rfl rfl ?_ | refine SL.y (op_sub rfl rfl (by omega) (by omega)) rfl rfl ?_ | refine SL.y (op_subW rfl rfl) rfl rfl ?_
      first | refine SL.y (op_indexN Tryz.underlying32 ty9 rfl rfl (by omega)) rfl rfl ?_ | refine SL.y (op_index Tryz.underlying32 ty9 rfl rfl (by omega) (by omega)) rfl rfl ?_
      refine SL.y (op_load ty9 rfl (by repeat constructor) (cread1k' hsn (by omega))) rfl rfl ?_
      refine SL.y (op_assign rfl) rfl rfl ?_
      refine SL.nil ?_
      refine T.seq ?_
      refine T.draw (by kernel_rfl) 9 [.t 0, .t 1, .t 3, .t 4, .r 2, .r 5, .t 6, .t 7, .t 8] (by kernel_rfl) ?_
      refine SD.take rfl panicBody (op_fieldAddr fa50_0 rfl) rfl rfl ?_
      first | refine SD.take rfl panicBody (op_load ty3 rfl (by repeat constructor) rfl) rfl rfl ?_ | refine SD.take rfl panicBody (op_loadX ty3 rfl (by assumption) rfl) rfl rfl ?_
      refine SD.take rfl panicBody (op_fieldAddr fa50_0 rfl) rfl rfl ?_
      first | refine SD.take rfl panicBody (op_load ty3 rfl (by repeat constructor) rfl) rfl rfl ?_ | refine SD.take rfl panicBody (op_loadX ty3 rfl (by assumption) rfl) rfl rfl ?_
      refine SD.run rfl (op_callF en55 (vs := [_]) rfl (binds_spec (op := op))) rfl rfl ?_
      rintro _ _ X1 ⟨rfl, hX1, rfl⟩
      refine SD.run rfl (op_callF en55 (vs := [_]) rfl (binds_spec (op := op))) rfl rfl ?_
      rintro _ _ X2 ⟨rfl, hX2, rfl⟩
      rw [h5]
      first | refine SD.take rfl panicBody (op_addN (q := 1) rfl rfl (by omega)) rfl rfl ?_ | refine SD.take rfl panicBody (op_add rfl rfl (by omega) (by omega)) rfl rfl ?_ | refine SD.take rfl panicBody (op_addW rfl rfl) rfl rfl ?_
      refine SD.take rfl panicBody (op_assign rfl) rfl rfl ?_
      refine SD.take rfl panicBody (op_assign rfl) rfl rfl ?_
      refine SD.nil ?_
      show SL _ _ _ _ _ _ _ [] _ _ _
      refine SL.nil ?_
      refine T.seq ?_
      refine T.seq ?_
      refine T.region ?_
      refine SL.y (op_fieldAddr fa50_0 rfl) rfl rfl ?_
      first | refine SL.y (op_load ty3 rfl (by repeat constructor) rfl) rfl rfl ?_ | refine SL.y (op_loadX ty3 rfl (by assumption) rfl) rfl rfl ?_
      first | refine SL.y (op_eqlT rfl rfl (by omega)) rfl rfl ?_ | refine SL.y (op_eqlF rfl rfl (by omega)) rfl rfl ?_ | refine SL.y (op_eql rfl rfl) rfl rfl ?_
      refine SL.nil ?_
      refine T.condF rfl ?_
      refine T.skip ?_
      refine T.seq ?_
      refine T.seq ?_
      refine T.region ?_
      refine SL.y (op_fieldAddr fa50_0 rfl) rfl rfl ?_
      first | refine SL.y (op_load ty3 rfl (by repeat constructor) rfl) rfl rfl ?_ | refine SL.y (op_loadX ty3 rfl (by assumption) rfl) rfl rfl ?_
      first | refine SL.y (op_geqT rfl rfl (by omega)) rfl rfl ?_ | refine SL.y (op_geqF rfl rfl (by omega)) rfl rfl ?_ | refine SL.y (op_geq rfl rfl) rfl rfl ?_
      refine SL.y (op_move rfl) rfl rfl ?_
      first | refine SL.skip rfl rfl ?_ | refine SL.y (op_fieldAddr fa50_0 rfl) rfl rfl ?_
      first | refine SL.skip rfl rfl ?_ | refine SL.y (op_load ty3 rfl (by repeat constructor) rfl) rfl rfl ?_ | refine SL.y (op_loadX ty3 rfl (by assumption) rfl) rfl rfl ?_
      first | refine SL.skip rfl rfl ?_ | refine SL.y (op_leqT rfl rfl (by omega)) rfl rfl ?_ | refine SL.y (op_leqF rfl rfl (by omega)) rfl rfl ?_ | refine SL.y (op_leq rfl rfl) rfl rfl ?_
      first | refine SL.y (op_pickT rfl rfl) rfl rfl ?_ | refine SL.y (op_pickF rfl rfl) rfl rfl ?_ | refine SL.y (op_pickB rfl rfl rfl) rfl rfl ?_
      refine SL.nil ?_
      refine T.condT rfl ?_
      refine T.region ?_
      refine SL.y (op_assign (v := .int .i64 ((6 : Nat) : Int)) rfl) rfl rfl ?_
      refine SL.nil ?_
      refine T.seq ?_
      refine T.draw (by kernel_rfl) 18 [.t 0, .t 1, .t 2, .t 3, .t 4, .t 7, .t 10, .t 11, .t 12, .t 13, .t 14, .r 5, .t 6, .t 8, .t 9, .r 15, .t 16, .t 17] (by kernel_rfl) ?_
      refine SD.take rfl panicBody (op_fieldAddr fa50_3 rfl) rfl rfl ?_
      first | refine SD.take rfl panicBody (op_load ty48 rfl (by repeat constructor) rfl) rfl rfl ?_ | refine SD.take rfl panicBody (op_loadX ty48 rfl (by assumption) rfl) rfl rfl ?_
      first | refine SD.take rfl panicBody (op_indexN Tryz.underlying48 ty50 rfl rfl (by omega)) rfl rfl ?_ | refine SD.take rfl panicBody (op_index Tryz.underlying48 ty50 rfl rfl (by omega) (by omega)) rfl rfl ?_
      refine SD.take rfl panicBody (op_loadX ty50 rfl (hbA.mono (hX1.trans' hX2)) (row_read rc4_len (rs := [_, _]) (k := 0) rfl (by omega))) rfl rfl ?_
      refine SD.take rfl panicBody (op_move rfl) rfl rfl ?_
      refine SD.take rfl panicBody (op_move rfl) rfl rfl ?_
      refine SD.take rfl panicBody (op_fieldAddr fa50_3 rfl) rfl rfl ?_
      first | refine SD.take rfl panicBody (op_load ty48 rfl (by repeat constructor) rfl) rfl rfl ?_ | refine SD.take rfl panicBody (op_loadX ty48 rfl (by assumption) rfl) rfl rfl ?_
      first | refine SD.take rfl panicBody (op_indexN Tryz.underlying48 ty50 rfl rfl (by omega)) rfl rfl ?_ | refine SD.take rfl panicBody (op_index Tryz.underlying48 ty50 rfl rfl (by omega) (by omega)) rfl rfl ?_
      refine SD.take rfl panicBody (op_loadX ty50 rfl (hbA.mono (hX1.trans' hX2)) (row_read rc4_len (rs := [_, _]) (k := 1) rfl (by omega))) rfl rfl ?_
      refine SD.take rfl panicBody (op_move rfl) rfl rfl ?_
      refine SD.run rfl (op_callF en54 (vs := [_, _]) rfl (hopd (least := 6) hwa.1 hna (hra.mono (hX1.trans' hX2)))) rfl rfl ?_
      rintro _ _ X3 ⟨rfl, hX3, rfl⟩
      refine SD.take rfl panicBody (op_addStr rfl rfl (by first | omega | (simp only [ByteArray.size_append]; omega))) rfl rfl ?_
      refine SD.take rfl panicBody (op_addStr rfl rfl (by first | omega | (simp only [ByteArray.size_append]; omega))) rfl rfl ?_
      refine SD.take rfl panicBody (op_addStr rfl rfl (by first | omega | (simp only [ByteArray.size_append]; omega))) rfl rfl ?_
      refine SD.run rfl (op_callF en54 (vs := [_, _]) rfl (hopd (least := 6) hwa.2 hnb ((hrb.mono (hX1.trans' hX2)).mono hX3))) rfl rfl ?_
      rintro _ _ X5 ⟨rfl, hX5, rfl⟩
      refine SD.take rfl panicBody (op_addStr rfl rfl (by first | omega | (simp only [ByteArray.size_append]; omega))) rfl rfl ?_
      refine SD.take rfl panicBody (op_assign rfl) rfl rfl ?_
      refine SD.nil ?_
      show SL _ _ _ _ _ _ _ [] _ _ _
      refine SL.nil ?_
      refine T.ret1 rfl (ResIs.tmp rfl) ?_
      rfl
    · have h5 : ¬strN op = 5 := by
        rcases (by omega : op = 8 ∨ op = 9 ∨ op = 16) with rfl | rfl | rfl <;> decide
      have el : lefN op = strN op := by rw [lefN, if_neg c10, if_neg h5]
      have er : rigN op = strN op + 1 := if_neg c10
      rw [el] at hps3
      rw [er] at hps4
      rw [el, er]
      by_cases g1 : 11 ≤ op
      · have g2 : ¬op ≤ 15 := fun h => c5s ⟨g1, h⟩
        refine Spec.enter Tryz.func32 rfl Tryz.ntmps32 rfl ?_
        intro w0 hw0
        refine T.seq ?_
        refine T.region ?_
        refine SL.x (op_box rfl) rfl rfl ?_
        rintro _ _ _ ⟨B1, rfl, rfl, rfl⟩
        refine SL.y (op_assign rfl) rfl rfl ?_
        refine SL.nil ?_
        refine T.seq ?_
        refine T.seq ?_
        refine T.region ?_
        refine SL.y (op_fieldAddr fa50_0 rfl) rfl rfl ?_
        first | refine SL.y (op_load ty3 rfl (by repeat constructor) rfl) rfl rfl ?_ | refine SL.y (op_loadX ty3 rfl (by assumption) rfl) rfl rfl ?_
        refine SL.nil ?_
        refine T.block ?_
        refine T.seq ?_
        refine T.region ?_
        first | refine SL.y (op_eqlT rfl rfl (by omega)) rfl rfl ?_ | refine SL.y (op_eqlF rfl rfl (by omega)) rfl rfl ?_ | refine SL.y (op_eql rfl rfl) rfl rfl ?_
        refine SL.y (op_assign rfl) rfl rfl ?_
        refine SL.nil ?_
        refine T.condF rfl ?_
        refine T.seq ?_
        refine T.region ?_
        first | refine SL.y (op_eqlT rfl rfl (by omega)) rfl rfl ?_ | refine SL.y (op_eqlF rfl rfl (by omega)) rfl rfl ?_ | refine SL.y (op_eql rfl rfl) rfl rfl ?_
        refine SL.y (op_assign rfl) rfl rfl ?_
        refine SL.nil ?_
        refine T.condF rfl ?_
        refine T.seq ?_
        refine T.region ?_
        first | refine SL.y (op_eqlT rfl rfl (by omega)) rfl rfl ?_ | refine SL.y (op_eqlF rfl rfl (by omega)) rfl rfl ?_ | refine SL.y (op_eql rfl rfl) rfl rfl ?_
        refine SL.y (op_assign rfl) rfl rfl ?_
        refine SL.nil ?_
        refine T.condF rfl ?_
        refine T.seq ?_
        refine T.region ?_
        first | refine SL.y (op_eqlT rfl rfl (by omega)) rfl rfl ?_ | refine SL.y (op_eqlF rfl rfl (by omega)) rfl rfl ?_ | refine SL.y (op_eql rfl rfl) rfl rfl ?_
        refine SL.y (op_assign rfl) rfl rfl ?_
        refine SL.nil ?_
        refine T.condF rfl ?_
        refine T.seq ?_
        refine T.region ?_
        first | refine SL.y (op_eqlT rfl rfl (by omega)) rfl rfl ?_ | refine SL.y (op_eqlF rfl rfl (by omega)) rfl rfl ?_ | refine SL.y (op_eql rfl rfl) rfl rfl ?_
        refine SL.y (op_assign rfl) rfl rfl ?_
        refine SL.nil ?_
        refine T.condF rfl ?_
        refine T.seq ?_
        refine T.region ?_
        first | refine SL.y (op_eqlT rfl rfl (by omega)) rfl rfl ?_ | refine SL.y (op_eqlF rfl rfl (by omega)) rfl rfl ?_ | refine SL.y (op_eql rfl rfl) rfl rfl ?_
        refine SL.y (op_assign rfl) rfl rfl ?_
        refine SL.nil ?_
        refine T.condF rfl ?_
        refine T.seq ?_
        refine T.region ?_
        first | refine SL.y (op_eqlT rfl rfl (by omega)) rfl rfl ?_ | refine SL.y (op_eqlF rfl rfl (by omega)) rfl rfl ?_ | refine SL.y (op_eql rfl rfl) rfl rfl ?_
        refine SL.y (op_assign rfl) rfl rfl ?_
        refine SL.nil ?_
        refine T.condF rfl ?_
        refine T.skip ?_
        refine T.blk ?_
        refine T.seq ?_
        refine T.region ?_
        refine SL.x (op_buildSlice Tryz.underlying32 bs9 (qs := [(0, _), (1, _), (2, _), (3, _), (4, _), (5, _), (6, _), (7, _), (8, _)]) rfl rfl rfl rfl rfl) rfl rfl ?_
        rintro _ _ _ ⟨B46, rfl, rfl, rfl⟩
        refine SL.y (op_fieldAddr fa50_0 rfl) rfl rfl ?_
        first | refine SL.y (op_load ty3 rfl (by repeat constructor) rfl) rfl rfl ?_ | refine SL.y (op_loadX ty3 rfl (by assumption) rfl) rfl rfl ?_
        first | refine SL.y (op_subN (q := 8) rfl rfl (by omega) (by omega)) rfl rfl ?_ | refine SL.y (op_sub rfl rfl (by omega) (by omega)) rfl rfl ?_ | refine SL.y (op_subW rfl rfl) rfl rfl ?_
        first | refine SL.y (op_indexN Tryz.underlying32 ty9 rfl rfl (by omega)) rfl rfl ?_ | refine SL.y (op_index Tryz.underlying32 ty9 rfl rfl (by omega) (by omega)) rfl rfl ?_
        refine SL.y (op_load ty9 rfl (by repeat constructor) (cread1k' hsn (by omega))) rfl rfl ?_
        refine SL.y (op_assign rfl) rfl rfl ?_
        refine SL.nil ?_
        refine T.seq ?_
        refine T.draw (by kernel_rfl) 9 [.t 0, .t 1, .t 3, .t 4, .r 2, .r 5, .t 6, .t 7, .t 8] (by kernel_rfl) ?_
        refine SD.take rfl panicBody (op_fieldAddr fa50_0 rfl) rfl rfl ?_
        first | refine SD.take rfl panicBody (op_load ty3 rfl (by repeat constructor) rfl) rfl rfl ?_ | refine SD.take rfl panicBody (op_loadX ty3 rfl (by assumption) rfl) rfl rfl ?_
        refine SD.take rfl panicBody (op_fieldAddr fa50_0 rfl) rfl rfl ?_
        first | refine SD.take rfl panicBody (op_load ty3 rfl (by repeat constructor) rfl) rfl rfl ?_ | refine SD.take rfl panicBody (op_loadX ty3 rfl (by assumption) rfl) rfl rfl ?_
        refine SD.run rfl (op_callF en55 (vs := [_]) rfl (binds_spec (op := op))) rfl rfl ?_
        rintro _ _ X1 ⟨rfl, hX1, rfl⟩
        refine SD.run rfl (op_callF en55 (vs := [_]) rfl (binds_spec (op := op))) rfl rfl ?_
        rintro _ _ X2 ⟨rfl, hX2, rfl⟩
        first | refine SD.take rfl panicBody (op_addN (q := 1) rfl rfl (by omega)) rfl rfl ?_ | refine SD.take rfl panicBody (op_add rfl rfl (by omega) (by omega)) rfl rfl ?_ | refine SD.take rfl panicBody (op_addW rfl rfl) rfl rfl ?_
        refine SD.take rfl panicBody (op_assign rfl) rfl rfl ?_
        refine SD.take rfl panicBody (op_assign rfl) rfl rfl ?_
        refine SD.nil ?_
        show SL _ _ _ _ _ _ _ [] _ _ _
        refine SL.nil ?_
        refine T.seq ?_
        refine T.seq ?_
        refine T.region ?_
        refine SL.y (op_fieldAddr fa50_0 rfl) rfl rfl ?_
        first | refine SL.y (op_load ty3 rfl (by repeat constructor) rfl) rfl rfl ?_ | refine SL.y (op_loadX ty3 rfl (by assumption) rfl) rfl rfl ?_
        first | refine SL.y (op_eqlT rfl rfl (by omega)) rfl rfl ?_ | refine SL.y (op_eqlF rfl rfl (by omega)) rfl rfl ?_ | refine SL.y (op_eql rfl rfl) rfl rfl ?_
        refine SL.nil ?_
        refine T.condF rfl ?_
        refine T.skip ?_
        refine T.seq ?_
        refine T.seq ?_
        refine T.region ?_
        refine SL.y (op_fieldAddr fa50_0 rfl) rfl rfl ?_
        first | refine SL.y (op_load ty3 rfl (by repeat constructor) rfl) rfl rfl ?_ | refine SL.y (op_loadX ty3 rfl (by assumption) rfl) rfl rfl ?_
        first | refine SL.y (op_geqT rfl rfl (by omega)) rfl rfl ?_ | refine SL.y (op_geqF rfl rfl (by omega)) rfl rfl ?_ | refine SL.y (op_geq rfl rfl) rfl rfl ?_
        refine SL.y (op_move rfl) rfl rfl ?_
        first | refine SL.skip rfl rfl ?_ | refine SL.y (op_fieldAddr fa50_0 rfl) rfl rfl ?_
        first | refine SL.skip rfl rfl ?_ | refine SL.y (op_load ty3 rfl (by repeat constructor) rfl) rfl rfl ?_ | refine SL.y (op_loadX ty3 rfl (by assumption) rfl) rfl rfl ?_
        first | refine SL.skip rfl rfl ?_ | refine SL.y (op_leqT rfl rfl (by omega)) rfl rfl ?_ | refine SL.y (op_leqF rfl rfl (by omega)) rfl rfl ?_ | refine SL.y (op_leq rfl rfl) rfl rfl ?_
        first | refine SL.y (op_pickT rfl rfl) rfl rfl ?_ | refine SL.y (op_pickF rfl rfl) rfl rfl ?_ | refine SL.y (op_pickB rfl rfl rfl) rfl rfl ?_
        refine SL.nil ?_
        refine T.condF rfl ?_
        refine T.skip ?_
        refine T.seq ?_
        refine T.draw (by kernel_rfl) 18 [.t 0, .t 1, .t 2, .t 3, .t 4, .t 7, .t 10, .t 11, .t 12, .t 13, .t 14, .r 5, .t 6, .t 8, .t 9, .r 15, .t 16, .t 17] (by kernel_rfl) ?_
        refine SD.take rfl panicBody (op_fieldAddr fa50_3 rfl) rfl rfl ?_
        first | refine SD.take rfl panicBody (op_load ty48 rfl (by repeat constructor) rfl) rfl rfl ?_ | refine SD.take rfl panicBody (op_loadX ty48 rfl (by assumption) rfl) rfl rfl ?_
        first | refine SD.take rfl panicBody (op_indexN Tryz.underlying48 ty50 rfl rfl (by omega)) rfl rfl ?_ | refine SD.take rfl panicBody (op_index Tryz.underlying48 ty50 rfl rfl (by omega) (by omega)) rfl rfl ?_
        refine SD.take rfl panicBody (op_loadX ty50 rfl (hbA.mono (hX1.trans' hX2)) (row_read rc4_len (rs := [_, _]) (k := 0) rfl (by omega))) rfl rfl ?_
        refine SD.take rfl panicBody (op_move rfl) rfl rfl ?_
        refine SD.take rfl panicBody (op_move rfl) rfl rfl ?_
        refine SD.take rfl panicBody (op_fieldAddr fa50_3 rfl) rfl rfl ?_
        first | refine SD.take rfl panicBody (op_load ty48 rfl (by repeat constructor) rfl) rfl rfl ?_ | refine SD.take rfl panicBody (op_loadX ty48 rfl (by assumption) rfl) rfl rfl ?_
        first | refine SD.take rfl panicBody (op_indexN Tryz.underlying48 ty50 rfl rfl (by omega)) rfl rfl ?_ | refine SD.take rfl panicBody (op_index Tryz.underlying48 ty50 rfl rfl (by omega) (by omega)) rfl rfl ?_
        refine SD.take rfl panicBody (op_loadX ty50 rfl (hbA.mono (hX1.trans' hX2)) (row_read rc4_len (rs := [_, _]) (k := 1) rfl (by omega))) rfl rfl ?_
        refine SD.take rfl panicBody (op_move rfl) rfl rfl ?_
        refine SD.run rfl (op_callF en54 (vs := [_, _]) rfl (hopd hwa.1 hna (hra.mono (hX1.trans' hX2)))) rfl rfl ?_
        rintro _ _ X3 ⟨rfl, hX3, rfl⟩
        refine SD.take rfl panicBody (op_addStr rfl rfl (by first | omega | (simp only [ByteArray.size_append]; omega))) rfl rfl ?_
        refine SD.take rfl panicBody (op_addStr rfl rfl (by first | omega | (simp only [ByteArray.size_append]; omega))) rfl rfl ?_
        refine SD.take rfl panicBody (op_addStr rfl rfl (by first | omega | (simp only [ByteArray.size_append]; omega))) rfl rfl ?_
        refine SD.run rfl (op_callF en54 (vs := [_, _]) rfl (hopd hwa.2 hnb ((hrb.mono (hX1.trans' hX2)).mono hX3))) rfl rfl ?_
        rintro _ _ X5 ⟨rfl, hX5, rfl⟩
        refine SD.take rfl panicBody (op_addStr rfl rfl (by first | omega | (simp only [ByteArray.size_append]; omega))) rfl rfl ?_
        refine SD.take rfl panicBody (op_assign rfl) rfl rfl ?_
        refine SD.nil ?_
        show SL _ _ _ _ _ _ _ [] _ _ _
        refine SL.nil ?_
        refine T.ret1 rfl (ResIs.tmp rfl) ?_
        rfl
      · refine Spec.enter Tryz.func32 rfl Tryz.ntmps32 rfl ?_
        intro w0 hw0
        refine T.seq ?_
        refine T.region ?_
        refine SL.x (op_box rfl) rfl rfl ?_
        rintro _ _ _ ⟨B1, rfl, rfl, rfl⟩
        refine SL.y (op_assign rfl) rfl rfl ?_
        refine SL.nil ?_
        refine T.seq ?_
        refine T.seq ?_
        refine T.region ?_
        refine SL.y (op_fieldAddr fa50_0 rfl) rfl rfl ?_
        first | refine SL.y (op_load ty3 rfl (by repeat constructor) rfl) rfl rfl ?_ | refine SL.y (op_loadX ty3 rfl (by assumption) rfl) rfl rfl ?_
        refine SL.nil ?_
        refine T.block ?_
        refine T.seq ?_
        refine T.region ?_
        first | refine SL.y (op_eqlT rfl rfl (by omega)) rfl rfl ?_ | refine SL.y (op_eqlF rfl rfl (by omega)) rfl rfl ?_ | refine SL.y (op_eql rfl rfl) rfl rfl ?_
        refine SL.y (op_assign rfl) rfl rfl ?_
        refine SL.nil ?_
        refine T.condF rfl ?_
        refine T.seq ?_
        refine T.region ?_
        first | refine SL.y (op_eqlT rfl rfl (by omega)) rfl rfl ?_ | refine SL.y (op_eqlF rfl rfl (by omega)) rfl rfl ?_ | refine SL.y (op_eql rfl rfl) rfl rfl ?_
        refine SL.y (op_assign rfl) rfl rfl ?_
        refine SL.nil ?_
        refine T.condF rfl ?_
        refine T.seq ?_
        refine T.region ?_
        first | refine SL.y (op_eqlT rfl rfl (by omega)) rfl rfl ?_ | refine SL.y (op_eqlF rfl rfl (by omega)) rfl rfl ?_ | refine SL.y (op_eql rfl rfl) rfl rfl ?_
        refine SL.y (op_assign rfl) rfl rfl ?_
        refine SL.nil ?_
        refine T.condF rfl ?_
        refine T.seq ?_
        refine T.region ?_
        first | refine SL.y (op_eqlT rfl rfl (by omega)) rfl rfl ?_ | refine SL.y (op_eqlF rfl rfl (by omega)) rfl rfl ?_ | refine SL.y (op_eql rfl rfl) rfl rfl ?_
        refine SL.y (op_assign rfl) rfl rfl ?_
        refine SL.nil ?_
        refine T.condF rfl ?_
        refine T.seq ?_
        refine T.region ?_
        first | refine SL.y (op_eqlT rfl rfl (by omega)) rfl rfl ?_ | refine SL.y (op_eqlF rfl rfl (by omega)) rfl rfl ?_ | refine SL.y (op_eql rfl rfl) rfl rfl ?_
        refine SL.y (op_assign rfl) rfl rfl ?_
        refine SL.nil ?_
        refine T.condF rfl ?_
        refine T.seq ?_
        refine T.region ?_
        first | refine SL.y (op_eqlT rfl rfl (by omega)) rfl rfl ?_ | refine SL.y (op_eqlF rfl rfl (by omega)) rfl rfl ?_ | refine SL.y (op_eql rfl rfl) rfl rfl ?_
        refine SL.y (op_assign rfl) rfl rfl ?_
        refine SL.nil ?_
        refine T.condF rfl ?_
        refine T.seq ?_
        refine T.region ?_
        first | refine SL.y (op_eqlT rfl rfl (by omega)) rfl rfl ?_ | refine SL.y (op_eqlF rfl rfl (by omega)) rfl rfl ?_ | refine SL.y (op_eql rfl rfl) rfl rfl ?_
        refine SL.y (op_assign rfl) rfl rfl ?_
        refine SL.nil ?_
        refine T.condF rfl ?_
        refine T.skip ?_
        refine T.blk ?_
        refine T.seq ?_
        refine T.region ?_
        refine SL.x (op_buildSlice Tryz.underlying32 bs9 (qs := [(0, _), (1, _), (2, _), (3, _), (4, _), (5, _), (6, _), (7, _), (8, _)]) rfl rfl rfl rfl rfl) rfl rfl ?_
        rintro _ _ _ ⟨B46, rfl, rfl, rfl⟩
        refine SL.y (op_fieldAddr fa50_0 rfl) rfl rfl ?_
        first | refine SL.y (op_load ty3 rfl (by repeat constructor) rfl) rfl rfl ?_ | refine SL.y (op_loadX ty3 rfl (by assumption) rfl) rfl rfl ?_
        first | refine SL.y (op_subN (q := 8) rfl rfl (by omega) (by omega)) rfl rfl ?_ | refine SL.y (op_sub rfl rfl (by omega) (by omega)) rfl rfl ?_ | refine SL.y (op_subW rfl rfl) rfl rfl ?_
        first | refine SL.y (op_indexN Tryz.underlying32 ty9 rfl rfl (by omega)) rfl rfl ?_ | refine SL.y (op_index Tryz.underlying32 ty9 rfl rfl (by omega) (by omega)) rfl rfl ?_
        refine SL.y (op_load ty9 rfl (by repeat constructor) (cread1k' hsn (by omega))) rfl rfl ?_
        refine SL.y (op_assign rfl) rfl rfl ?_
        refine SL.nil ?_
        refine T.seq ?_
        refine T.draw (by kernel_rfl) 9 [.t 0, .t 1, .t 3, .t 4, .r 2, .r 5, .t 6, .t 7, .t 8] (by kernel_rfl) ?_
        refine SD.take rfl panicBody (op_fieldAddr fa50_0 rfl) rfl rfl ?_
        first | refine SD.take rfl panicBody (op_load ty3 rfl (by repeat constructor) rfl) rfl rfl ?_ | refine SD.take rfl panicBody (op_loadX ty3 rfl (by assumption) rfl) rfl rfl ?_
        refine SD.take rfl panicBody (op_fieldAddr fa50_0 rfl) rfl rfl ?_
        first | refine SD.take rfl panicBody (op_load ty3 rfl (by repeat constructor) rfl) rfl rfl ?_ | refine SD.take rfl panicBody (op_loadX ty3 rfl (by assumption) rfl) rfl rfl ?_
        refine SD.run rfl (op_callF en55 (vs := [_]) rfl (binds_spec (op := op))) rfl rfl ?_
        rintro _ _ X1 ⟨rfl, hX1, rfl⟩
        refine SD.run rfl (op_callF en55 (vs := [_]) rfl (binds_spec (op := op))) rfl rfl ?_
        rintro _ _ X2 ⟨rfl, hX2, rfl⟩
        first | refine SD.take rfl panicBody (op_addN (q := 1) rfl rfl (by omega)) rfl rfl ?_ | refine SD.take rfl panicBody (op_add rfl rfl (by omega) (by omega)) rfl rfl ?_ | refine SD.take rfl panicBody (op_addW rfl rfl) rfl rfl ?_
        refine SD.take rfl panicBody (op_assign rfl) rfl rfl ?_
        refine SD.take rfl panicBody (op_assign rfl) rfl rfl ?_
        refine SD.nil ?_
        show SL _ _ _ _ _ _ _ [] _ _ _
        refine SL.nil ?_
        refine T.seq ?_
        refine T.seq ?_
        refine T.region ?_
        refine SL.y (op_fieldAddr fa50_0 rfl) rfl rfl ?_
        first | refine SL.y (op_load ty3 rfl (by repeat constructor) rfl) rfl rfl ?_ | refine SL.y (op_loadX ty3 rfl (by assumption) rfl) rfl rfl ?_
        first | refine SL.y (op_eqlT rfl rfl (by omega)) rfl rfl ?_ | refine SL.y (op_eqlF rfl rfl (by omega)) rfl rfl ?_ | refine SL.y (op_eql rfl rfl) rfl rfl ?_
        refine SL.nil ?_
        refine T.condF rfl ?_
        refine T.skip ?_
        refine T.seq ?_
        refine T.seq ?_
        refine T.region ?_
        refine SL.y (op_fieldAddr fa50_0 rfl) rfl rfl ?_
        first | refine SL.y (op_load ty3 rfl (by repeat constructor) rfl) rfl rfl ?_ | refine SL.y (op_loadX ty3 rfl (by assumption) rfl) rfl rfl ?_
        first | refine SL.y (op_geqT rfl rfl (by omega)) rfl rfl ?_ | refine SL.y (op_geqF rfl rfl (by omega)) rfl rfl ?_ | refine SL.y (op_geq rfl rfl) rfl rfl ?_
        refine SL.y (op_move rfl) rfl rfl ?_
        first | refine SL.skip rfl rfl ?_ | refine SL.y (op_fieldAddr fa50_0 rfl) rfl rfl ?_
        first | refine SL.skip rfl rfl ?_ | refine SL.y (op_load ty3 rfl (by repeat constructor) rfl) rfl rfl ?_ | refine SL.y (op_loadX ty3 rfl (by assumption) rfl) rfl rfl ?_
        first | refine SL.skip rfl rfl ?_ | refine SL.y (op_leqT rfl rfl (by omega)) rfl rfl ?_ | refine SL.y (op_leqF rfl rfl (by omega)) rfl rfl ?_ | refine SL.y (op_leq rfl rfl) rfl rfl ?_
        first | refine SL.y (op_pickT rfl rfl) rfl rfl ?_ | refine SL.y (op_pickF rfl rfl) rfl rfl ?_ | refine SL.y (op_pickB rfl rfl rfl) rfl rfl ?_
        refine SL.nil ?_
        refine T.condF rfl ?_
        refine T.skip ?_
        refine T.seq ?_
        refine T.draw (by kernel_rfl) 18 [.t 0, .t 1, .t 2, .t 3, .t 4, .t 7, .t 10, .t 11, .t 12, .t 13, .t 14, .r 5, .t 6, .t 8, .t 9, .r 15, .t 16, .t 17] (by kernel_rfl) ?_
        refine SD.take rfl panicBody (op_fieldAddr fa50_3 rfl) rfl rfl ?_
        first | refine SD.take rfl panicBody (op_load ty48 rfl (by repeat constructor) rfl) rfl rfl ?_ | refine SD.take rfl panicBody (op_loadX ty48 rfl (by assumption) rfl) rfl rfl ?_
        first | refine SD.take rfl panicBody (op_indexN Tryz.underlying48 ty50 rfl rfl (by omega)) rfl rfl ?_ | refine SD.take rfl panicBody (op_index Tryz.underlying48 ty50 rfl rfl (by omega) (by omega)) rfl rfl ?_
        refine SD.take rfl panicBody (op_loadX ty50 rfl (hbA.mono (hX1.trans' hX2)) (row_read rc4_len (rs := [_, _]) (k := 0) rfl (by omega))) rfl rfl ?_
        refine SD.take rfl panicBody (op_move rfl) rfl rfl ?_
        refine SD.take rfl panicBody (op_move rfl) rfl rfl ?_
        refine SD.take rfl panicBody (op_fieldAddr fa50_3 rfl) rfl rfl ?_
        first | refine SD.take rfl panicBody (op_load ty48 rfl (by repeat constructor) rfl) rfl rfl ?_ | refine SD.take rfl panicBody (op_loadX ty48 rfl (by assumption) rfl) rfl rfl ?_
        first | refine SD.take rfl panicBody (op_indexN Tryz.underlying48 ty50 rfl rfl (by omega)) rfl rfl ?_ | refine SD.take rfl panicBody (op_index Tryz.underlying48 ty50 rfl rfl (by omega) (by omega)) rfl rfl ?_
        refine SD.take rfl panicBody (op_loadX ty50 rfl (hbA.mono (hX1.trans' hX2)) (row_read rc4_len (rs := [_, _]) (k := 1) rfl (by omega))) rfl rfl ?_
        refine SD.take rfl panicBody (op_move rfl) rfl rfl ?_
        refine SD.run rfl (op_callF en54 (vs := [_, _]) rfl (hopd hwa.1 hna (hra.mono (hX1.trans' hX2)))) rfl rfl ?_
        rintro _ _ X3 ⟨rfl, hX3, rfl⟩
        refine SD.take rfl panicBody (op_addStr rfl rfl (by first | omega | (simp only [ByteArray.size_append]; omega))) rfl rfl ?_
        refine SD.take rfl panicBody (op_addStr rfl rfl (by first | omega | (simp only [ByteArray.size_append]; omega))) rfl rfl ?_
        refine SD.take rfl panicBody (op_addStr rfl rfl (by first | omega | (simp only [ByteArray.size_append]; omega))) rfl rfl ?_
        refine SD.run rfl (op_callF en54 (vs := [_, _]) rfl (hopd hwa.2 hnb ((hrb.mono (hX1.trans' hX2)).mono hX3))) rfl rfl ?_
        rintro _ _ X5 ⟨rfl, hX5, rfl⟩
        refine SD.take rfl panicBody (op_addStr rfl rfl (by first | omega | (simp only [ByteArray.size_append]; omega))) rfl rfl ?_
        refine SD.take rfl panicBody (op_assign rfl) rfl rfl ?_
        refine SD.nil ?_
        show SL _ _ _ _ _ _ _ [] _ _ _
        refine SL.nil ?_
        refine T.ret1 rfl (ResIs.tmp rfl) ?_
        rfl
end Go.Proofs.YtaooojjhlngcmaaGreatDoor
namespace Go.Proofs.YtaooojjhlngcmaaGreatDoor
section
set_option maxRecDepth 100000
theorem bs53 : ∃ i z, Tryz.prog.info? 53 = some i ∧ i.size = 7 ∧ i.zero = some z ∧ z.cells = ([.bool false, .int .i64 0, .string ⟨#[]⟩, .int .i64 0, .int .i64 0, .slice none 0 0, .slice none 0 0] : List Value).toArray := bs_of (by kernel_rfl)
theorem en15 : Enters Tryz.prog 15 := enters_mk Tryz.func15 (by kernel_rfl) rfl
theorem fa46_0 : FAdr Tryz.prog 46 0 0 := fadr_mk Tryz.underlying46 rfl rfl (by kernel_rfl)
theorem fa46_1 : FAdr Tryz.prog 46 1 1 := fadr_mk Tryz.underlying46 rfl rfl (by kernel_rfl)
theorem fa46_2 : FAdr Tryz.prog 46 2 2 := fadr_mk Tryz.underlying46 rfl rfl (by kernel_rfl)
theorem fa46_3 : FAdr Tryz.prog 46 3 3 := fadr_mk Tryz.underlying46 rfl rfl (by kernel_rfl)
theorem sl24 : SlT Tryz.prog 24 53 7 96 := ⟨Tryz.underlying24, sl_of (by kernel_rfl) (by decide)⟩
theorem z53 : Zero Tryz.prog 53 [.bool false, .int .i64 0, .string ⟨#[]⟩, .int .i64 0, .int .i64 0, .slice none 0 0, .slice none 0 0] := ⟨zero_of (by kernel_rfl)⟩
theorem st53 : StT Tryz.prog 53 [(0, 1), (1, 1), (2, 1), (3, 4)] [.bool false, .int .i64 0, .string ⟨#[]⟩, .int .i64 0, .int .i64 0, .slice none 0 0, .slice none 0 0] := ⟨⟨_, Tryz.underlying53, fun _ => by kernel_rfl, z53⟩⟩
theorem ty46 : Ty Tryz.prog 46 true 4 := ⟨⟨_, Tryz.underlying46, rfl⟩, by kernel_rfl⟩
end
open Go.RowKit
structure Itm where
  enf : Bool
  kind : Nat
  name : Nat
  nodes : List Nd
abbrev RowI := Bool × Nat × Nat × Value
def itC (r : RowI) : List Value := [.bool r.1, .int .u8 (r.2.1 : Int), .int .u8 (r.2.2.1 : Int), r.2.2.2]
theorem itC_len (r : RowI) : (itC r).length = 4 := rfl
def ItR (X : PMap) (x : Itm) (r : RowI) : Prop := r.1 = x.enf ∧ r.2.1 = x.kind ∧ r.2.2.1 = x.name ∧ RowR ndC X r.2.2.2 x.nodes
def itOk (x : Itm) : Prop := x.kind < 256 ∧ x.name < 256 ∧ ∀ y ∈ x.nodes, ndOk y
def ItsR (X : PMap) (v : Value) (l : List Itm) : Prop := ∃ rows : List RowI, RowR itC X v rows ∧ rows.length = l.length ∧ ∀ (i : Nat) (x : Itm) (r : RowI), l[i]? = some x → rows[i]? = some r → ItR X x r
theorem ItsR.mono {X X' : PMap} {v : Value} {l : List Itm} (h : ItsR X v l) (hX : X.le X') : ItsR X' v l :=
  let ⟨rows, h1, h2, h3⟩ := h
  ⟨rows, h1.mono hX, h2, fun i x r a b => let ⟨p, q, s, t⟩ := h3 i x r a b; ⟨p, q, s, t.mono hX⟩⟩
def nameOf (n : Nat) : ByteArray := if 100 ≤ n then ⟨#[110]⟩ ++ decB n else word20 n
def conOf (x : Itm) : Con := ⟨x.enf, x.kind, nameOf x.name, builtE x.nodes⟩
def consOf (l : List Itm) : List Con := (l.take 34).map conOf
/-- The specification's constraints in memory. -/
def rc7i (r : Row7) : List Value := [.bool r.1, .int .i64 (r.2.1 : Int), .string r.2.2.1, r.2.2.2.1, r.2.2.2.2.1, r.2.2.2.2.2.1, r.2.2.2.2.2.2]
theorem rc7i_len (r : Row7) : (rc7i r).length = 7 := rfl
def ConRi (X : PMap) (c : Con) (r : Row7) : Prop := r.1 = c.enf ∧ r.2.1 = c.kind ∧ r.2.2.1 = c.name ∧ ExR .i64 X c.ex r.2.2.2
theorem ConRi.mono {X X' : PMap} {c : Con} {r : Row7} (h : ConRi X c r) (hX : X.le X') : ConRi X' c r := ⟨h.1, h.2.1, h.2.2.1, h.2.2.2.mono hX⟩
theorem ConRi.form {X : PMap} {c : Con} {r : Row7} (h : ConRi X c r) : ∃ (o : Nat) (n : Int) (A B : Option Addr) (l c1 l' c' : Nat), r = (c.enf, c.kind, c.name, .int .i64 (o : Int), .int .i64 n, .slice A l c1, .slice B l' c') := by
  obtain ⟨e, k, s, r4⟩ := r
  obtain ⟨h1, h2, h3, h4⟩ := h
  simp only at h1 h2 h3 h4
  subst h1 h2 h3
  obtain ⟨o, n, A, B, l, c1, l', c', rfl⟩ := h4.form
  exact ⟨_, _, _, _, _, _, _, _, rfl⟩
def ConsRi (X : PMap) (v : Value) (cs : List Con) : Prop := ∃ rows : List Row7, RowR rc7i X v rows ∧ rows.length = cs.length ∧ ∀ (i : Nat) (c : Con) (r : Row7), cs[i]? = some c → rows[i]? = some r → ConRi X c r
theorem ConsRi.mono {X X' : PMap} {v : Value} {cs : List Con} (h : ConsRi X v cs) (hX : X.le X') : ConsRi X' v cs :=
  let ⟨rows, h1, h2, h3⟩ := h
  ⟨rows, h1.mono hX, h2, fun i c r a b => (h3 i c r a b).mono hX⟩
/-- One row more. -/
theorem rows_snoc {α β : Type} {R : PMap → α → β → Prop} {X : PMap} {cs : List α} {rows : List β} {c : α} {r : β} (hl : rows.length = cs.length) (h : ∀ (i : Nat) (c : α) (r : β), cs[i]? = some c → rows[i]? = some r → R X c r) (hc : R X c r) :
    ∀ (i : Nat) (c' : α) (r' : β), (cs ++ [c])[i]? = some c' → (rows ++ [r])[i]? = some r' → R X c' r' := by
  intro i c' r' h1 h2
  rcases Nat.lt_or_ge i cs.length with hi | hi
  · rw [List.getElem?_append_left hi] at h1
    rw [List.getElem?_append_left (by omega)] at h2
    exact h i c' r' h1 h2
  · have hik : i = cs.length := by
      have := (List.getElem?_eq_some_iff.1 h1).1
      rw [List.length_append] at this; simp at this; omega
    subst hik
    rw [List.getElem?_append_right (Nat.le_refl _), Nat.sub_self] at h1
    rw [List.getElem?_append_right (by omega), ← hl, Nat.sub_self] at h2
    simp only [List.getElem?_cons_zero, Option.some.injEq] at h1 h2
    subst h1 h2
    exact hc
theorem ball_spec {X : PMap} {v : Value} {l : List Itm} (h : ItsR X v l) (hok : ∀ x ∈ l, itOk x) : Spec Tryz.prog 5 [v] X fun u X' => ConsRi X' u (consOf l) := by
  obtain ⟨rows, hr, hrl, hrow⟩ := h
  obtain ⟨A, cp, rfl⟩ := hr.form
  have hmx : maxLen = 9223372036854775807 := rfl
  refine Spec.enter Tryz.func5 rfl Tryz.ntmps5 rfl ?_
  intro w0 hw0
  refine T.seq ?_
  refine T.region ?_
  refine SL.y (op_assign rfl) rfl rfl ?_
  refine SL.nil ?_
  refine T.seq ?_
  refine T.region ?_
  refine SL.y (op_assign rfl) rfl rfl ?_
  refine SL.nil ?_
  refine T.seq ?_
  refine T.seq ?_
  refine T.region ?_
  refine SL.y (op_assign (v := .int .i64 ((0 : Nat) : Int)) rfl) rfl rfl ?_
  refine SL.nil ?_
  refine T.block ?_
  refine T.loopW (fun m env own X' => ∃ (i : Nat) (vo : Value) (rs : List Row7), m = rows.length - i ∧ i ≤ rows.length ∧ i ≤ 34 ∧ X.le X' ∧ rs.length = ((l.take i).map conOf).length ∧ GrowS 53 7 vo rs.length ((rs.map rc7i).flatten) own ∧ (∀ (q : Nat) (c : Con) (r : Row7), ((l.take i).map conOf)[q]? = some c → rs[q]? = some r → ConRi X' c r) ∧ env = [(0, .slice A rows.length cp), (3, vo), (4, .int .i64 (i : Int))]) rows.length ⟨0, _, [], by simp, by omega, by omega, PMap.le_refl _, rfl, GrowS.nil, (fun q c r h => by simp at h), rfl⟩ (by repeat (first | exact Sub.nil | refine Sub.cons rfl ?_)) ?_
  rintro m _ G X1 ⟨i, vo, rs, rfl, hi, hi34, hX1, hrsl, hG, hrs, rfl⟩
  have hfin : i = 34 ∨ i = rows.length → (l.take i).map conOf = consOf l := fun h => by
    rcases h with rfl | h
    · rfl
    · rw [consOf]
      congr 1
      rw [h, List.take_of_length_le (by omega), List.take_of_length_le (by omega)]
  have hrl2 : rs.length = i := by rw [hrsl, List.length_map, List.length_take]; omega
  have hout : ∀ (_ : i = 34 ∨ i = rows.length) {X9 : PMap} (_ : X1.le X9) (_ : SliceR X9 vo rs.length ((rs.map rc7i).flatten)), ConsRi X9 vo (consOf l) := fun hc X9 hX9 hS9 => by
    rw [← hfin hc]
    exact ⟨rs, RowR.ofG hG hS9, hrsl, fun q c r h1 h2 => (hrs q c r h1 h2).mono hX9⟩
  rcases Nat.lt_or_ge i rows.length with hil | hil
  · rcases Nat.lt_or_ge i 34 with h34 | h34
    · obtain ⟨r2, hr2⟩ : ∃ r2, rows[i]? = some r2 := ⟨_, List.getElem?_eq_getElem hil⟩
      obtain ⟨x, hx⟩ : ∃ x, l[i]? = some x := ⟨_, List.getElem?_eq_getElem (by omega)⟩
      obtain ⟨x1, x2, x3, x4⟩ := hrow i x r2 hx hr2
      obtain ⟨e, k, nm, vs⟩ := r2
      simp only at x1 x2 x3 x4
      subst x1 x2 x3
      obtain ⟨okk, okn, oks⟩ := hok x (List.mem_of_getElem? hx)
      obtain ⟨An, cn, rfl⟩ := x4.form
      obtain ⟨bA, pre, rfl, hbA⟩ := hr.blk (by omega)
      have hB1 := hbA.mono hX1
      have htk := take_snoc hx
      obtain ⟨Av, cv, rfl⟩ := hG.form
      refine T.seq ?_
      refine T.seq ?_
      refine T.region ?_
      refine SL.y (op_move rfl) rfl rfl ?_
      refine SL.y (op_move rfl) rfl rfl ?_
      refine SL.y (op_lenS Tryz.underlying22 rfl) rfl rfl ?_
      first | refine SL.y (op_lssT rfl rfl (by omega)) rfl rfl ?_ | refine SL.y (op_lssF rfl rfl (by omega)) rfl rfl ?_ | refine SL.y (op_lss rfl rfl) rfl rfl ?_
      refine SL.y (op_move rfl) rfl rfl ?_
      first | refine SL.skip rfl rfl ?_ | refine SL.y (op_move rfl) rfl rfl ?_
      first | refine SL.skip rfl rfl ?_ | refine SL.y (op_lssT rfl rfl (by omega)) rfl rfl ?_ | refine SL.y (op_lssF rfl rfl (by omega)) rfl rfl ?_ | refine SL.y (op_lss rfl rfl) rfl rfl ?_
      first | refine SL.y (op_pickT rfl rfl) rfl rfl ?_ | refine SL.y (op_pickF rfl rfl) rfl rfl ?_ | refine SL.y (op_pickB rfl rfl rfl) rfl rfl ?_
      refine SL.nil ?_
      refine T.condT rfl ?_
      refine T.skip ?_
      refine T.seq ?_
      refine T.block ?_
      refine T.seq ?_
      refine T.region ?_
      refine SL.y (op_move rfl) rfl rfl ?_
      refine SL.y (op_move rfl) rfl rfl ?_
      first | refine SL.y (op_indexN Tryz.underlying22 ty46 rfl rfl (by omega)) rfl rfl ?_ | refine SL.y (op_index Tryz.underlying22 ty46 rfl rfl (by omega) (by omega)) rfl rfl ?_
      refine SL.y (op_fieldAddr fa46_2 rfl) rfl rfl ?_
      refine SL.y (op_loadX (v := .int .u8 (x.name : Int)) ty5 rfl hB1 (row_cell (sz := 4) (j := 2) itC_len hr2 rfl (by omega))) rfl rfl ?_
      refine SL.x (op_callF en13 (vs := [_]) rfl (word20_spec okn)) rfl rfl ?_
      rintro _ _ X2 ⟨rfl, hX2, rfl⟩
      refine SL.y (op_assign rfl) rfl rfl ?_
      refine SL.nil ?_
      refine T.seq ?_
      refine T.meet (fun _ env own X' => X2.le X' ∧ env = [(0, .slice (some ⟨bA, pre.length, none⟩) rows.length cp), (3, .slice Av rs.length cv), (4, .int .i64 (i : Int)), (5, .string (nameOf x.name))] ∧ own = G) ?_ ?_
      · skip
        refine T.seq ?_
        refine T.region ?_
        refine SL.y (op_move rfl) rfl rfl ?_
        refine SL.y (op_move rfl) rfl rfl ?_
        first | refine SL.y (op_indexN Tryz.underlying22 ty46 rfl rfl (by omega)) rfl rfl ?_ | refine SL.y (op_index Tryz.underlying22 ty46 rfl rfl (by omega) (by omega)) rfl rfl ?_
        refine SL.y (op_fieldAddr fa46_2 rfl) rfl rfl ?_
        refine SL.y (op_loadX (v := .int .u8 (x.name : Int)) ty5 rfl (hB1.mono hX2) (row_cell (sz := 4) (j := 2) itC_len hr2 rfl (by omega))) rfl rfl ?_
        by_cases h100 : 100 ≤ x.name
        · have e : nameOf x.name = ⟨#[110]⟩ ++ decB x.name := if_pos h100
          have kn : (⟨#[110]⟩ : ByteArray).size = 1 := rfl
          have hds := decB_size x.name
          rw [e]
          first | refine SL.y (op_geqT rfl rfl (by omega)) rfl rfl ?_ | refine SL.y (op_geqF rfl rfl (by omega)) rfl rfl ?_ | refine SL.y (op_geq rfl rfl) rfl rfl ?_
          refine SL.nil ?_
          refine T.condT rfl ?_
          refine T.region ?_
          refine SL.y (op_move rfl) rfl rfl ?_
          refine SL.y (op_move rfl) rfl rfl ?_
          first | refine SL.y (op_indexN Tryz.underlying22 ty46 rfl rfl (by omega)) rfl rfl ?_ | refine SL.y (op_index Tryz.underlying22 ty46 rfl rfl (by omega) (by omega)) rfl rfl ?_
          refine SL.y (op_fieldAddr fa46_2 rfl) rfl rfl ?_
          refine SL.y (op_loadX (v := .int .u8 (x.name : Int)) ty5 rfl (hB1.mono hX2) (row_cell (sz := 4) (j := 2) itC_len hr2 rfl (by omega))) rfl rfl ?_
          first | refine SL.y (op_convI64 Tryz.underlying5 Tryz.underlying3 rfl (by omega) (by omega)) rfl rfl ?_ | refine SL.y (op_convert Tryz.underlying5 Tryz.underlying3 rfl) rfl rfl ?_
          refine SL.x (op_callF en14 (vs := [_]) rfl (dec_spec (v := x.name) (by omega))) rfl rfl ?_
          rintro _ _ X3 ⟨rfl, hX3, rfl⟩
          refine SL.y (op_addStr rfl rfl (by first | omega | (simp only [ByteArray.size_append]; omega))) rfl rfl ?_
          refine SL.y (op_assign rfl) rfl rfl ?_
          refine SL.nil ?_
          exact T.backW 0 (by omega) ⟨hX3, rfl, rfl⟩ (by repeat (first | exact Sub.nil | refine Sub.cons rfl ?_))
        · have e : nameOf x.name = word20 x.name := if_neg h100
          rw [e]
          first | refine SL.y (op_geqT rfl rfl (by omega)) rfl rfl ?_ | refine SL.y (op_geqF rfl rfl (by omega)) rfl rfl ?_ | refine SL.y (op_geq rfl rfl) rfl rfl ?_
          refine SL.nil ?_
          refine T.condF rfl ?_
          refine T.skip ?_
          exact T.backW 0 (by omega) ⟨PMap.le_refl _, rfl, rfl⟩ (by repeat (first | exact Sub.nil | refine Sub.cons rfl ?_))
      rintro _ _ _ X3 ⟨hX3, rfl, rfl⟩
      have hB3 := (hB1.mono hX2).mono hX3
      refine T.drawG (own0 := []) (by kernel_rfl) 21 [.t 0, .t 1, .t 2, .t 3, .t 4, .t 5, .t 6, .t 7, .t 8, .t 9, .t 10, .t 11, .t 12, .t 13, .t 14, .t 15, .t 16, .t 17, .r 18, .t 19, .r 20] (by kernel_rfl) ?_
      refine SD.take rfl panicBody (op_move rfl) rfl rfl ?_
      refine SD.take rfl panicBody (op_move rfl) rfl rfl ?_
      refine SD.take rfl panicBody (op_move rfl) rfl rfl ?_
      first | refine SD.take rfl panicBody (op_indexN Tryz.underlying22 ty46 rfl rfl (by omega)) rfl rfl ?_ | refine SD.take rfl panicBody (op_index Tryz.underlying22 ty46 rfl rfl (by omega) (by omega)) rfl rfl ?_
      refine SD.take rfl panicBody (op_fieldAddr fa46_0 rfl) rfl rfl ?_
      refine SD.take rfl panicBody (op_loadX (v := .bool x.enf) ty4 rfl hB3 (row_cell (sz := 4) (j := 0) itC_len hr2 rfl (by omega))) rfl rfl ?_
      refine SD.take rfl panicBody (op_move rfl) rfl rfl ?_
      refine SD.take rfl panicBody (op_move rfl) rfl rfl ?_
      first | refine SD.take rfl panicBody (op_indexN Tryz.underlying22 ty46 rfl rfl (by omega)) rfl rfl ?_ | refine SD.take rfl panicBody (op_index Tryz.underlying22 ty46 rfl rfl (by omega) (by omega)) rfl rfl ?_
      refine SD.take rfl panicBody (op_fieldAddr fa46_1 rfl) rfl rfl ?_
      refine SD.take rfl panicBody (op_loadX (v := .int .u8 (x.kind : Int)) ty5 rfl hB3 (row_cell (sz := 4) (j := 1) itC_len hr2 rfl (by omega))) rfl rfl ?_
      first | refine SD.take rfl panicBody (op_convI64 Tryz.underlying5 Tryz.underlying3 rfl (by omega) (by omega)) rfl rfl ?_ | refine SD.take rfl panicBody (op_convert Tryz.underlying5 Tryz.underlying3 rfl) rfl rfl ?_
      refine SD.take rfl panicBody (op_move rfl) rfl rfl ?_
      refine SD.take rfl panicBody (op_move rfl) rfl rfl ?_
      refine SD.take rfl panicBody (op_move rfl) rfl rfl ?_
      first | refine SD.take rfl panicBody (op_indexN Tryz.underlying22 ty46 rfl rfl (by omega)) rfl rfl ?_ | refine SD.take rfl panicBody (op_index Tryz.underlying22 ty46 rfl rfl (by omega) (by omega)) rfl rfl ?_
      refine SD.take rfl panicBody (op_fieldAddr fa46_3 rfl) rfl rfl ?_
      refine SD.take rfl panicBody (op_loadX (v := .slice An x.nodes.length cn) ty44 rfl hB3 (row_cell (sz := 4) (j := 3) itC_len hr2 rfl (by omega))) rfl rfl ?_
      refine SD.run rfl (op_callF en15 (vs := [_]) rfl (built_spec ((((x4.mono hX1).mono hX2).mono hX3)) oks)) rfl rfl ?_
      rintro _ _ X4 ⟨rfl, hX4, r8, rfl, hr8⟩
      obtain ⟨o8, n8, a8, b8, l8, c8, l9, c9, rfl⟩ := hr8.form
      refine SD.take rfl panicBody (op_build st53 (qs := [(0, _), (1, _), (2, _), (3, _)]) rfl rfl) rfl rfl ?_
      refine SD.run rfl (op_buildSlice Tryz.underlying24 bs53 (qs := [(0, _)]) rfl rfl rfl rfl rfl) rfl rfl ?_
      rintro _ _ _ ⟨B56, rfl, rfl, rfl⟩
      refine SD.nil ?_
      show SL _ _ _ _ _ _ _ [_, _] _ _ _
      refine SL.x (op_appendGA (own0 := [_]) (m := 1) sl24 rfl hG rfl (Src.ofOwn0 AtO.here rfl) (by intro y hy; have hy : y ∈ [Value.bool _, Value.int _ _, Value.string _, Value.int _ _, Value.int _ _, Value.slice _ _ _, Value.slice _ _ _] := hy; simp only [List.mem_cons, List.not_mem_nil, or_false] at hy; rcases hy with rfl | rfl | rfl | rfl | rfl | rfl | rfl <;> rfl) (by omega) (by omega)) rfl rfl ?_
      rintro va9 _ _ ⟨Ga9, rfl, rfl, hGa9⟩
      refine SL.y (op_assign rfl) rfl rfl ?_
      refine SL.nil ?_
      refine T.blk ?_
      refine T.region ?_
      refine SL.y (op_move rfl) rfl rfl ?_
      first | refine SL.y (op_addN (q := 1) rfl rfl (by omega)) rfl rfl ?_ | refine SL.y (op_add rfl rfl (by omega) (by omega)) rfl rfl ?_ | refine SL.y (op_addW rfl rfl) rfl rfl ?_
      refine SL.y (op_assign rfl) rfl rfl ?_
      refine SL.nil ?_
      refine T.less (own' := [] ++ Ga9) (List.sublist_cons_self _ _) ?_
      have hX14 := (hX2.trans' hX3).trans' hX4
      have hnew : ConRi X4 (conOf x) (x.enf, x.kind, nameOf x.name, .int .i64 (o8 : Int), .int .i64 n8, .slice a8 l8 c8, .slice b8 l9 c9) := ⟨rfl, rfl, rfl, hr8⟩
      have hG10 : GrowS 53 7 va9 (rs ++ [((x.enf, x.kind, nameOf x.name, .int .i64 (o8 : Int), .int .i64 n8, .slice a8 l8 c8, .slice b8 l9 c9) : Row7)]).length (((rs ++ [((x.enf, x.kind, nameOf x.name, .int .i64 (o8 : Int), .int .i64 n8, .slice a8 l8 c8, .slice b8 l9 c9) : Row7)]).map rc7i).flatten) Ga9 := by
        rw [List.length_append, List.map_append, List.flatten_append]
        exact hGa9
      have hmp : (l.take (i + 1)).map conOf = (l.take i).map conOf ++ [conOf x] := by rw [htk, List.map_append]; rfl
      exact T.backW (rows.length - (i + 1)) (by omega) ⟨i + 1, _, _, rfl, by omega, by omega, hX1.trans' hX14, by rw [hmp, List.length_append, List.length_append, hrsl]; rfl, hG10, by rw [hmp]; exact rows_snoc hrsl (fun q c r h1 h2 => (hrs q c r h1 h2).mono hX14) hnew, rfl⟩ (by repeat (first | exact Sub.nil | refine Sub.cons rfl ?_))
    · obtain rfl : i = 34 := by omega
      obtain ⟨Av, cv, rfl⟩ := hG.form
      refine T.seq ?_
      refine T.seq ?_
      refine T.region ?_
      refine SL.y (op_move rfl) rfl rfl ?_
      refine SL.y (op_move rfl) rfl rfl ?_
      refine SL.y (op_lenS Tryz.underlying22 rfl) rfl rfl ?_
      first | refine SL.y (op_lssT rfl rfl (by omega)) rfl rfl ?_ | refine SL.y (op_lssF rfl rfl (by omega)) rfl rfl ?_ | refine SL.y (op_lss rfl rfl) rfl rfl ?_
      refine SL.y (op_move rfl) rfl rfl ?_
      first | refine SL.skip rfl rfl ?_ | refine SL.y (op_move rfl) rfl rfl ?_
      first | refine SL.skip rfl rfl ?_ | refine SL.y (op_lssT rfl rfl (by omega)) rfl rfl ?_ | refine SL.y (op_lssF rfl rfl (by omega)) rfl rfl ?_ | refine SL.y (op_lss rfl rfl) rfl rfl ?_
      first | refine SL.y (op_pickT rfl rfl) rfl rfl ?_ | refine SL.y (op_pickF rfl rfl) rfl rfl ?_ | refine SL.y (op_pickB rfl rfl rfl) rfl rfl ?_
      refine SL.nil ?_
      refine T.condF rfl ?_
      refine T.exit (T.exitCode (T.exitCut (T.exitBlk ?_)))
      refine T.seq ?_
      refine T.region ?_
      refine SL.y (op_move rfl) rfl rfl ?_
      refine SL.y (op_assign rfl) rfl rfl ?_
      refine SL.nil ?_
      refine T.pubG (own0 := []) hG ?_
      intro X9 hX9 hS9
      refine T.ret1 rfl (ResIs.tmp rfl) ?_
      exact hout (.inl rfl) hX9 hS9
  · obtain rfl : i = rows.length := by omega
    obtain ⟨Av, cv, rfl⟩ := hG.form
    refine T.seq ?_
    refine T.seq ?_
    refine T.region ?_
    refine SL.y (op_move rfl) rfl rfl ?_
    refine SL.y (op_move rfl) rfl rfl ?_
    refine SL.y (op_lenS Tryz.underlying22 rfl) rfl rfl ?_
    first | refine SL.y (op_lssT rfl rfl (by omega)) rfl rfl ?_ | refine SL.y (op_lssF rfl rfl (by omega)) rfl rfl ?_ | refine SL.y (op_lss rfl rfl) rfl rfl ?_
    refine SL.y (op_move rfl) rfl rfl ?_
    first | refine SL.skip rfl rfl ?_ | refine SL.y (op_move rfl) rfl rfl ?_
    first | refine SL.skip rfl rfl ?_ | refine SL.y (op_lssT rfl rfl (by omega)) rfl rfl ?_ | refine SL.y (op_lssF rfl rfl (by omega)) rfl rfl ?_ | refine SL.y (op_lss rfl rfl) rfl rfl ?_
    first | refine SL.y (op_pickT rfl rfl) rfl rfl ?_ | refine SL.y (op_pickF rfl rfl) rfl rfl ?_ | refine SL.y (op_pickB rfl rfl rfl) rfl rfl ?_
    refine SL.nil ?_
    refine T.condF rfl ?_
    refine T.exit (T.exitCode (T.exitCut (T.exitBlk ?_)))
    refine T.seq ?_
    refine T.region ?_
    refine SL.y (op_move rfl) rfl rfl ?_
    refine SL.y (op_assign rfl) rfl rfl ?_
    refine SL.nil ?_
    refine T.pubG (own0 := []) hG ?_
    intro X9 hX9 hS9
    refine T.ret1 rfl (ResIs.tmp rfl) ?_
    exact hout (.inr rfl) hX9 hS9
end Go.Proofs.YtaooojjhlngcmaaGreatDoor
namespace Go.Proofs.YtaooojjhlngcmaaGreatDoor
open Go.ChangeShapes Go.WideShapes Go.ChangeAt Go.RowKit Go.Joins Go.Deep
theorem u8_of {z : Int} (h : (Lit.int .u8 z).wf = true) : ∃ b : Nat, z = (b : Int) ∧ b < 256 := by
  simp only [Lit.wf, Bool.and_eq_true, decide_eq_true_eq] at h
  obtain ⟨h1, h2⟩ : (0 : Int) ≤ z ∧ z ≤ 255 := h
  obtain ⟨b, rfl⟩ := Int.eq_ofNat_of_zero_le h1
  exact ⟨b, rfl, by omega⟩
theorem okWide_slice {P : Program} {W : World} {base : Nat} {t e : TypeId} {v : Value} (ht : P.underlying t = some (.slice e)) (h : Value.okWide P W .any base t v) : ∃ A len cap, v = .slice A len cap := by
  simp only [Value.okWide, Cell.okWide, ht] at h
  simp only [Cell.ok, ht] at h
  cases v <;> simp_all
section
variable {H : Type} {enc : TypeId × Value → H} {W : World}
theorem node_cells : Tryz.prog.cellsOf 84 = 4 := by kernel_rfl
set_option maxRecDepth 100000 in
theorem node_el {n : Nat} {cs : List Value} {y : DataW H × List MemPlace} (hl : cs.length = 4) (h : DataW.trod enc Tryz.prog W 0 (fun _ => true) true n 84 cs = some y) : ∃ x : Nd, cs = ndC x ∧ ndOk x := by
  obtain ⟨xs, m, _, rfl, _, hlen, hf⟩ := DataW.trod_struct Tryz.underlying84 h
  match cs, hl with
  | [a, b, c, d], _ =>
    have f0 : DataW.trod enc Tryz.prog W 0 (fun _ => true) true m 5 (List.take (Tryz.prog.cellsOf 5) (List.drop 0 [a, b, c, d])) = xs[0]? := hf 0 _ rfl
    have f1 : DataW.trod enc Tryz.prog W 0 (fun _ => true) true m 5 (List.take (Tryz.prog.cellsOf 5) (List.drop 1 [a, b, c, d])) = xs[1]? := hf 1 _ rfl
    have f2 : DataW.trod enc Tryz.prog W 0 (fun _ => true) true m 5 (List.take (Tryz.prog.cellsOf 5) (List.drop 2 [a, b, c, d])) = xs[2]? := hf 2 _ rfl
    have f3 : DataW.trod enc Tryz.prog W 0 (fun _ => true) true m 3 (List.take (Tryz.prog.cellsOf 3) (List.drop 3 [a, b, c, d])) = xs[3]? := hf 3 _ rfl
    rw [cells5] at f0 f1 f2
    rw [show Tryz.prog.cellsOf 3 = 1 by kernel_rfl] at f3
    match xs, hlen with
    | [x0, x1, x2, x3], _ =>
      obtain ⟨za, e0, _, w0⟩ := DataW.trod_int Tryz.underlying5 f0
      obtain ⟨zb, e1, _, w1⟩ := DataW.trod_int Tryz.underlying5 f1
      obtain ⟨zc, e2, _, w2⟩ := DataW.trod_int Tryz.underlying5 f2
      obtain ⟨zd, e3, _, w3⟩ := DataW.trod_int Tryz.underlying3 f3
      obtain ⟨na, rfl, ha⟩ := u8_of w0
      obtain ⟨nb, rfl, hb⟩ := u8_of w1
      obtain ⟨nc, rfl, hc⟩ := u8_of w2
      refine ⟨⟨na, nb, nc, zd⟩, ?_, ha, hb, hc⟩
      simp at e0 e1 e2 e3
      subst e0 e1 e2 e3
      rfl
theorem item_cells : Tryz.prog.cellsOf 46 = 4 := by kernel_rfl
/-- A slice in a field, opened. -/
theorem open_field {α : Type} {rc : α → List Value} {ok : α → Prop} {t e : TypeId} {sz n : Nat} {c : Value} {y : DataW H × List MemPlace} (ht : Tryz.prog.underlying t = some (.slice e)) (hc : Tryz.prog.cellsOf e = sz) (h0 : 0 < sz) (hrc : ∀ x, (rc x).length = sz)
    (hel : ∀ {n : Nat} {cs : List Value} {y : DataW H × List MemPlace}, cs.length = sz → DataW.trod enc Tryz.prog W 0 (fun _ => true) true n e cs = some y → ∃ x, cs = rc x ∧ ok x) (h : DataW.trod enc Tryz.prog W 0 (fun _ => true) true n t [c] = some y) : ∃ (rs : List α), (∀ r ∈ rs, ok r) ∧ RowR rc (heapX W) c rs := by
  have hform : ∃ A len cap, c = .slice A len cap := by
    rcases open_slice ht h with ⟨h1, _⟩ | ⟨a, len, cap, _, _, _, _, h1, _⟩
    · exact ⟨none, 0, 0, by simpa using h1⟩
    · exact ⟨some a, len, cap, by simpa using h1⟩
  obtain ⟨A, len, cap, rfl⟩ := hform
  exact open_rows (d := y.1) (p := y.2) ht hc h0 hrc hel ⟨A, len, cap, rfl⟩ ⟨n, h⟩
set_option maxRecDepth 100000 in
theorem item_el {n : Nat} {cs : List Value} {y : DataW H × List MemPlace} (hl : cs.length = 4) (h : DataW.trod enc Tryz.prog W 0 (fun _ => true) true n 46 cs = some y) : ∃ r : RowI, cs = itC r ∧ ∃ x : Itm, ItR (heapX W) x r ∧ itOk x := by
  obtain ⟨xs, m, _, rfl, _, hlen, hf⟩ := DataW.trod_struct Tryz.underlying46 h
  match cs, hl with
  | [a, b, c, d], _ =>
    have f0 : DataW.trod enc Tryz.prog W 0 (fun _ => true) true m 4 (List.take (Tryz.prog.cellsOf 4) (List.drop 0 [a, b, c, d])) = xs[0]? := hf 0 _ rfl
    have f1 : DataW.trod enc Tryz.prog W 0 (fun _ => true) true m 5 (List.take (Tryz.prog.cellsOf 5) (List.drop 1 [a, b, c, d])) = xs[1]? := hf 1 _ rfl
    have f2 : DataW.trod enc Tryz.prog W 0 (fun _ => true) true m 5 (List.take (Tryz.prog.cellsOf 5) (List.drop 2 [a, b, c, d])) = xs[2]? := hf 2 _ rfl
    have f3 : DataW.trod enc Tryz.prog W 0 (fun _ => true) true m 44 (List.take (Tryz.prog.cellsOf 44) (List.drop 3 [a, b, c, d])) = xs[3]? := hf 3 _ rfl
    rw [cells5] at f1 f2
    rw [show Tryz.prog.cellsOf 4 = 1 by kernel_rfl] at f0
    rw [show Tryz.prog.cellsOf 44 = 1 by kernel_rfl] at f3
    match xs, hlen with
    | [x0, x1, x2, x3], _ =>
      obtain ⟨za, e0, _⟩ := DataW.trod_bool Tryz.underlying4 f0
      obtain ⟨zb, e1, _, w1⟩ := DataW.trod_int Tryz.underlying5 f1
      obtain ⟨zc, e2, _, w2⟩ := DataW.trod_int Tryz.underlying5 f2
      obtain ⟨nb, rfl, hb⟩ := u8_of w1
      obtain ⟨nc, rfl, hc⟩ := u8_of w2
      obtain ⟨rs, hok, hr⟩ := open_field (rc := ndC) (ok := ndOk) (c := d) Tryz.underlying44 node_cells (by omega) (fun _ => rfl) (fun hl h => node_el hl h) f3
      simp at e0 e1 e2
      subst e0 e1 e2
      exact ⟨(za, nb, nc, d), rfl, ⟨za, nb, nc, rs⟩, ⟨rfl, rfl, rfl, hr⟩, hb, hc, hok⟩
set_option maxRecDepth 100000 in
theorem open_items {base : Nat} {v : Value} {d : DataW H} {p : List MemPlace} (hval : Value.okWide Tryz.prog W .any base 22 v) (h : DataW.Trod enc Tryz.prog W 0 (fun _ => true) true 22 v d p) : ∃ rs : List Itm, (∀ x ∈ rs, itOk x) ∧ ItsR (heapX W) v rs := by
  obtain ⟨rows, hok, hr⟩ := open_rows (rc := itC) (ok := fun r => ∃ x : Itm, ItR (heapX W) x r ∧ itOk x) Tryz.underlying22 item_cells (by omega) (fun _ => rfl) (fun hl h => item_el hl h) (okWide_slice Tryz.underlying22 hval) h
  obtain ⟨l, hl, hx⟩ := exists_list (p := fun i (x : Itm) => ∀ r, rows[i]? = some r → ItR (heapX W) x r ∧ itOk x) rows.length (fun i hi => by
    obtain ⟨x, h1⟩ := hok rows[i] (List.getElem_mem _)
    exact ⟨x, fun r hr => by rw [List.getElem?_eq_getElem hi] at hr; cases hr; exact h1⟩)
  refine ⟨l, fun x hm => ?_, rows, hr, hl.symm, fun i x r h1 h2 => (hx i x h1 r h2).1⟩
  obtain ⟨i, hi⟩ := List.mem_iff_getElem?.1 hm
  have hlt := (List.getElem?_eq_some_iff.1 hi).1
  exact (hx i x hi rows[i] (List.getElem?_eq_getElem (by omega))).2
end
end Go.Proofs.YtaooojjhlngcmaaGreatDoor
namespace Go.Proofs.YtaooojjhlngcmaaGreatDoor
section
set_option maxRecDepth 100000
theorem en16 : Enters Tryz.prog 16 := enters_mk Tryz.func16 (by kernel_rfl) rfl
theorem en17 : Enters Tryz.prog 17 := enters_mk Tryz.func17 (by kernel_rfl) rfl
theorem en25 : Enters Tryz.prog 25 := enters_mk Tryz.func25 (by kernel_rfl) rfl
theorem en26 : Enters Tryz.prog 26 := enters_mk Tryz.func26 (by kernel_rfl) rfl
theorem en47 : Enters Tryz.prog 47 := enters_mk Tryz.func47 (by kernel_rfl) rfl
end
open Go.RowKit
theorem sameName_spec {X : PMap} {B : Nat} {c : Con} {w1 w2 w3 w4 : Value} {d : Row7} (hB : Blk X B (rc7 (c.enf, c.kind, c.name, w1, w2, w3, w4))) (hd : ∃ (o : Nat) (n : Int) (A B : Option Addr) (l c1 l' c' : Nat), d.2.2.2 = (.int .u8 (o : Int), .int .i64 n, .slice A l c1, .slice B l' c')) : Spec Tryz.prog 26 [.agg (rc7 d).toArray, .pointer (some ⟨B, 0, none⟩)] X fun u _ => u = .bool (decide (d.2.2.1 = c.name)) := by
  obtain ⟨e, k, s, r⟩ := d
  obtain ⟨o, n, A, Bb, l, c1, l', c', hr⟩ := hd
  simp only at hr
  subst hr
  refine Spec.enter Tryz.func26 rfl Tryz.ntmps26 rfl ?_
  intro w0 hw0
  refine T.seq ?_
  refine T.region ?_
  refine SL.x (op_box rfl) rfl rfl ?_
  rintro _ _ _ ⟨B2, rfl, rfl, rfl⟩
  refine SL.y (op_assign rfl) rfl rfl ?_
  refine SL.nil ?_
  refine T.seq ?_
  refine T.region ?_
  refine SL.y (op_fieldAddr fa41_2 rfl) rfl rfl ?_
  first | refine SL.y (op_load ty9 rfl (by repeat constructor) rfl) rfl rfl ?_ | refine SL.y (op_loadX ty9 rfl (by assumption) rfl) rfl rfl ?_
  refine SL.y (op_fieldAddr fa41_2 rfl) rfl rfl ?_
  first | refine SL.y (op_load ty9 rfl (by repeat constructor) rfl) rfl rfl ?_ | refine SL.y (op_loadX ty9 rfl (by assumption) rfl) rfl rfl ?_
  refine SL.y (op_eqlStrD rfl rfl) rfl rfl ?_
  refine SL.y (op_assign rfl) rfl rfl ?_
  refine SL.nil ?_
  refine T.ret1 rfl (ResIs.tmp rfl) ?_
  rfl
theorem idxC_spec {X : PMap} {v : Value} {B : Nat} {c : Con} {w1 w2 w3 w4 : Value} {cs : List Con} (h : ConsR X v cs) (hB : Blk X B (rc7 (c.enf, c.kind, c.name, w1, w2, w3, w4))) (hl : cs.length < 1000) : Spec Tryz.prog 47 [v, .func (.func 26) #[] #[.pointer (some ⟨B, 0, none⟩)]] X fun u _ => ∃ k : Int, u = .int .i64 k ∧ (0 ≤ k ↔ c.name ∈ cs.map (·.name)) := by
  obtain ⟨rows, hr, hrl, hrow⟩ := h
  obtain ⟨A, cp, rfl⟩ := hr.form
  refine Spec.enter Tryz.func47 rfl Tryz.ntmps47 rfl ?_
  intro w0 hw0
  refine T.seq ?_
  refine T.region ?_
  refine SL.y (op_assign (v := .int .i64 ((0 : Nat) : Int)) rfl) rfl rfl ?_
  refine SL.nil ?_
  refine T.seq ?_
  refine T.seq ?_
  refine T.region ?_
  refine SL.y (op_move rfl) rfl rfl ?_
  refine SL.y (op_lenS Tryz.underlying27 rfl) rfl rfl ?_
  refine SL.y (op_move (v := .int .i64 ((0 : Nat) : Int)) rfl) rfl rfl ?_
  refine SL.nil ?_
  refine T.block ?_
  refine T.loopW (fun m env own X' => ∃ i : Nat, m = rows.length - i ∧ i ≤ rows.length ∧ X.le X' ∧ (∀ q d, q < i → cs[q]? = some d → d.name ≠ c.name) ∧ env = [(0, .slice A rows.length cp), (1, .func (.func 26) #[] #[.pointer (some ⟨B, 0, none⟩)]), (7, .int .i64 (rows.length : Int)), (8, .int .i64 (i : Int))] ∧ own = []) rows.length ⟨0, by simp, by omega, PMap.le_refl _, fun q x hq => absurd hq (by omega), rfl, rfl⟩ (by repeat (first | exact Sub.nil | refine Sub.cons rfl ?_)) ?_
  rintro m _ _ X1 ⟨i, rfl, hi, hX1, hne, rfl, rfl⟩
  rcases Nat.lt_or_ge i rows.length with hil | hil
  · obtain ⟨r2, hr2⟩ : ∃ r2, rows[i]? = some r2 := ⟨_, List.getElem?_eq_getElem hil⟩
    obtain ⟨d, hd2⟩ : ∃ d, cs[i]? = some d := ⟨_, List.getElem?_eq_getElem (by omega)⟩
    have hrc := hrow i d r2 hd2 hr2
    obtain ⟨b, pre, rfl, hbA⟩ := hr.blk (by omega)
    have hf := hrc.2.2.2.form
    have hnm := hrc.2.2.1
    refine T.seq ?_
    refine T.region ?_
    first | refine SL.y (op_lssT rfl rfl (by omega)) rfl rfl ?_ | refine SL.y (op_lssF rfl rfl (by omega)) rfl rfl ?_ | refine SL.y (op_lss rfl rfl) rfl rfl ?_
    refine SL.nil ?_
    refine T.seq ?_
    refine T.condT rfl ?_
    refine T.skip ?_
    refine T.seq ?_
    refine T.block ?_
    refine T.seq ?_
    refine T.region ?_
    refine SL.y (op_move rfl) rfl rfl ?_
    refine SL.y (op_assign rfl) rfl rfl ?_
    refine SL.nil ?_
    refine T.seq ?_
    refine T.region ?_
    refine SL.y (op_move rfl) rfl rfl ?_
    refine SL.y (op_move rfl) rfl rfl ?_
    refine SL.y (op_move rfl) rfl rfl ?_
    first | refine SL.y (op_indexN Tryz.underlying27 ty41 rfl rfl (by omega)) rfl rfl ?_ | refine SL.y (op_index Tryz.underlying27 ty41 rfl rfl (by omega) (by omega)) rfl rfl ?_
    refine SL.y (op_loadX ty41 rfl (hbA.mono hX1) (row_read rc7_len hr2 (by omega))) rfl rfl ?_
    refine SL.x (op_call en26 rfl (vs := [_]) rfl (sameName_spec (hB.mono hX1) hf)) rfl rfl ?_
    rintro _ _ X2 ⟨rfl, hX2, rfl⟩
    rw [hnm]
    by_cases hc : d.name = c.name
    · rw [decide_eq_true hc]
      refine SL.nil ?_
      refine T.condT rfl ?_
      refine T.seq ?_
      refine T.region ?_
      refine SL.y (op_move rfl) rfl rfl ?_
      refine SL.y (op_assign rfl) rfl rfl ?_
      refine SL.nil ?_
      refine T.ret1 rfl (ResIs.tmp rfl) ?_
      exact ⟨_, rfl, fun _ => List.mem_map.2 ⟨d, List.mem_of_getElem? hd2, hc⟩, fun _ => by omega⟩
    · rw [decide_eq_false hc]
      refine SL.nil ?_
      refine T.condF rfl ?_
      refine T.skip ?_
      refine T.blk ?_
      refine T.region ?_
      first | refine SL.y (op_addN (q := 1) rfl rfl (by omega)) rfl rfl ?_ | refine SL.y (op_add rfl rfl (by omega) (by omega)) rfl rfl ?_ | refine SL.y (op_addW rfl rfl) rfl rfl ?_
      refine SL.y (op_move rfl) rfl rfl ?_
      refine SL.nil ?_
      have hne2 : ∀ (q : Nat) (y : Con), q < i + 1 → cs[q]? = some y → y.name ≠ c.name := fun q y hq hy => by
        rcases Nat.lt_or_ge q i with h1 | h1
        · exact hne q y h1 hy
        · obtain rfl : q = i := by omega
          rw [hd2] at hy; cases hy; exact hc
      exact T.backW (rows.length - (i + 1)) (by omega) ⟨i + 1, rfl, by omega, hX1.trans' hX2, hne2, rfl, rfl⟩ (by repeat (first | exact Sub.nil | refine Sub.cons rfl ?_))
  · refine T.seq ?_
    refine T.region ?_
    first | refine SL.y (op_lssT rfl rfl (by omega)) rfl rfl ?_ | refine SL.y (op_lssF rfl rfl (by omega)) rfl rfl ?_ | refine SL.y (op_lss rfl rfl) rfl rfl ?_
    refine SL.nil ?_
    refine T.seq ?_
    refine T.condF rfl ?_
    refine T.exit (T.exitCode (T.exitCut (T.exitBlk ?_)))
    refine T.seq ?_
    refine T.region ?_
    refine SL.y (op_assign rfl) rfl rfl ?_
    refine SL.nil ?_
    refine T.ret1 rfl (ResIs.tmp rfl) ?_
    refine ⟨_, rfl, fun h => absurd h (by omega), fun hm => ?_⟩
    obtain ⟨d, hd, hdn⟩ := List.mem_map.1 hm
    obtain ⟨q, hq⟩ := List.mem_iff_getElem?.1 hd
    have h1 := (List.getElem?_eq_some_iff.1 hq).1
    exact absurd hdn (hne q d (by omega) hq)
theorem conC_spec {X : PMap} {v : Value} {B : Nat} {c : Con} {w1 w2 w3 w4 : Value} {cs : List Con} (h : ConsR X v cs) (hB : Blk X B (rc7 (c.enf, c.kind, c.name, w1, w2, w3, w4))) (hl : cs.length < 1000) : Spec Tryz.prog 25 [v, .func (.func 26) #[] #[.pointer (some ⟨B, 0, none⟩)]] X fun u _ => u = .bool (decide (c.name ∈ cs.map (·.name))) := by
  obtain ⟨A, cp, rfl⟩ : ∃ A cp, v = .slice A cs.length cp := by
    obtain ⟨rows, hr, hrl, _⟩ := h
    obtain ⟨A, cp, rfl⟩ := hr.form
    exact ⟨A, cp, by rw [hrl]⟩
  refine Spec.enter Tryz.func25 rfl Tryz.ntmps25 rfl ?_
  intro w0 hw0
  refine T.seq ?_
  refine T.region ?_
  refine SL.y (op_assign rfl) rfl rfl ?_
  refine SL.nil ?_
  refine T.seq ?_
  refine T.region ?_
  refine SL.y (op_move rfl) rfl rfl ?_
  refine SL.y (op_move rfl) rfl rfl ?_
  refine SL.x (op_callF en47 (vs := [_, _]) rfl (idxC_spec h hB hl)) rfl rfl ?_
  rintro _ _ X1 ⟨rfl, hX1, k, rfl, hk⟩
  refine SL.y (op_geq rfl rfl) rfl rfl ?_
  refine SL.y (op_assign rfl) rfl rfl ?_
  refine SL.nil ?_
  refine T.ret1 rfl (ResIs.tmp rfl) ?_
  simp only [hk]
theorem chkCs_at {cs : List Con} {i : Nat} {c : Con} (h0 : chkCs [] (cs.take i) = 0) (hc : cs[i]? = some c) (hz : errC ((cs.take i).map (·.name)) c ≠ 0) : chkCs [] cs = errC ((cs.take i).map (·.name)) c := by
  obtain ⟨h1, h2⟩ := List.getElem?_eq_some_iff.1 hc
  have e : cs = cs.take i ++ c :: cs.drop (i + 1) := by rw [← h2, ← List.drop_eq_getElem_cons h1, List.take_append_drop]
  have : chkCs [] (cs.take i ++ c :: cs.drop (i + 1)) = errC ((cs.take i).map (·.name)) c := by
    rw [chkCs_app, if_neg (by simp [h0]), List.nil_append, chkCs, if_pos hz]
  rwa [← e] at this
theorem chkCs_snoc {cs : List Con} {i : Nat} {c : Con} (h0 : chkCs [] (cs.take i) = 0) (hc : cs[i]? = some c) (hz : errC ((cs.take i).map (·.name)) c = 0) : chkCs [] (cs.take (i + 1)) = 0 := by
  rw [take_snoc hc, chkCs_app, if_neg (by simp [h0]), List.nil_append, chkCs, if_neg (fun h => h hz), chkCs]
theorem check_spec {M : Nat} {X : PMap} (hI : ItoaOk M X) {v : Value} {cs : List Con} (h : ConsR X v cs) (hl : cs.length ≤ 40) (h0 : 0 < cs.length) (hw : wtC cs < 15000000) (hww : ∀ c ∈ cs, wtE c.ex < 900000) (hn : ∀ c ∈ cs, chkE c.ex = 0 → numE M c.ex)
    : Spec Tryz.prog 16 [v] X fun u _ => u = .int .i64 (chkAll cs) := by
  have hcs := h
  obtain ⟨rows, hr, hrl, hrow⟩ := h
  obtain ⟨A, cp, rfl⟩ := hr.form
  have hcap := hr.cap (by omega)
  by_cases h32 : 32 < cs.length
  · refine Spec.enter Tryz.func16 rfl Tryz.ntmps16 rfl ?_
    intro w0 hw0
    refine T.seq ?_
    refine T.region ?_
    refine SL.y (op_assign (v := .int .i64 ((0 : Nat) : Int)) rfl) rfl rfl ?_
    refine SL.nil ?_
    refine T.seq ?_
    refine T.seq ?_
    refine T.region ?_
    refine SL.y (op_move rfl) rfl rfl ?_
    refine SL.y (op_lenS Tryz.underlying27 rfl) rfl rfl ?_
    first | refine SL.y (op_gtrT rfl rfl (by omega)) rfl rfl ?_ | refine SL.y (op_gtrF rfl rfl (by omega)) rfl rfl ?_ | refine SL.y (op_gtr rfl rfl) rfl rfl ?_
    refine SL.nil ?_
    refine T.condT rfl ?_
    refine T.seq ?_
    refine T.region ?_
    refine SL.y (op_assign (v := .int .i64 ((3 : Nat) : Int)) rfl) rfl rfl ?_
    refine SL.nil ?_
    refine T.ret1 rfl (ResIs.tmp rfl) ?_
    rw [chkAll, if_pos h32]; rfl
  refine Spec.enter Tryz.func16 rfl Tryz.ntmps16 rfl ?_
  intro w0 hw0
  refine T.seq ?_
  refine T.region ?_
  refine SL.y (op_assign (v := .int .i64 ((0 : Nat) : Int)) rfl) rfl rfl ?_
  refine SL.nil ?_
  refine T.seq ?_
  refine T.seq ?_
  refine T.region ?_
  refine SL.y (op_move rfl) rfl rfl ?_
  refine SL.y (op_lenS Tryz.underlying27 rfl) rfl rfl ?_
  first | refine SL.y (op_gtrT rfl rfl (by omega)) rfl rfl ?_ | refine SL.y (op_gtrF rfl rfl (by omega)) rfl rfl ?_ | refine SL.y (op_gtr rfl rfl) rfl rfl ?_
  refine SL.nil ?_
  refine T.condF rfl ?_
  refine T.skip ?_
  refine T.seq ?_
  refine T.seq ?_
  refine T.region ?_
  refine SL.y (op_move rfl) rfl rfl ?_
  refine SL.y (op_lenS Tryz.underlying27 rfl) rfl rfl ?_
  refine SL.y (op_move (v := .int .i64 ((0 : Nat) : Int)) rfl) rfl rfl ?_
  refine SL.nil ?_
  refine T.block ?_
  refine T.loopW (fun m env own X' => ∃ i : Nat, m = rows.length - i ∧ i ≤ rows.length ∧ X.le X' ∧ chkCs [] (cs.take i) = 0 ∧ env = [(0, .slice A rows.length cp), (9, .slice A rows.length cp), (10, .int .i64 (rows.length : Int)), (11, .int .i64 (i : Int))] ∧ own = []) rows.length ⟨0, by simp, by omega, PMap.le_refl _, by simp [chkCs], rfl, rfl⟩ (by repeat (first | exact Sub.nil | refine Sub.cons rfl ?_)) ?_
  rintro m _ _ X1 ⟨i, rfl, hi, hX1, hz0, rfl, rfl⟩
  rcases Nat.lt_or_ge i rows.length with hil | hil
  · obtain ⟨r2, hr2⟩ : ∃ r2, rows[i]? = some r2 := ⟨_, List.getElem?_eq_getElem hil⟩
    obtain ⟨c, hc2⟩ : ∃ c, cs[i]? = some c := ⟨_, List.getElem?_eq_getElem (by omega)⟩
    have hmc := List.mem_of_getElem? hc2
    have hrc := hrow i c r2 hc2 hr2
    have htk : ConsR X (.slice (slA A cp 0 7) i cp) (cs.take i) := ⟨rows.take i, hr.take (sz := 7) (by omega), by rw [List.length_take, List.length_take]; omega, fun q d r a b => by
      rw [List.getElem?_take] at a b
      split at a
      · rename_i hq
        rw [if_pos hq] at b
        exact hrow q d r a b
      · cases a⟩
    obtain ⟨bA, pre, rfl, hbA⟩ := hr.blk (by omega)
    obtain ⟨o8, n8, a8, b8, l8, c8, l9, c9, rfl⟩ := hrc.form
    have hex := hrc.2.2.2
    simp only at hex
    have hwe := hww c hmc
    have hlt : (cs.take i).length < 1000 := by rw [List.length_take]; omega
    refine T.seq ?_
    refine T.region ?_
    first | refine SL.y (op_lssT rfl rfl (by omega)) rfl rfl ?_ | refine SL.y (op_lssF rfl rfl (by omega)) rfl rfl ?_ | refine SL.y (op_lss rfl rfl) rfl rfl ?_
    refine SL.nil ?_
    refine T.seq ?_
    refine T.condT rfl ?_
    refine T.skip ?_
    refine T.seq ?_
    refine T.block ?_
    refine T.seq ?_
    refine T.region ?_
    refine SL.y (op_move rfl) rfl rfl ?_
    first | refine SL.y (op_indexN Tryz.underlying27 ty41 rfl rfl (by omega)) rfl rfl ?_ | refine SL.y (op_index Tryz.underlying27 ty41 rfl rfl (by omega) (by omega)) rfl rfl ?_
    refine SL.y (op_loadX (v := .agg #[.bool c.enf, .int .u8 (c.kind : Int), .string c.name, .int .u8 (o8 : Int), .int .i64 n8, .slice a8 l8 c8, .slice b8 l9 c9]) ty41 rfl (hbA.mono hX1) (row_read rc7_len hr2 (by omega))) rfl rfl ?_
    by_cases hk1 : c.kind < 1
    · have he : errC ((cs.take i).map (·.name)) c = 1 := by rw [errC, if_pos (.inl hk1)]
      refine SL.x (op_alloc z41) rfl rfl ?_
      rintro _ _ _ ⟨B4, rfl, rfl, rfl⟩
      refine SL.y (op_assign rfl) rfl rfl ?_
      refine SL.x (op_store ty41 rfl rfl (by repeat constructor) rfl rfl rfl) rfl rfl ?_
      rintro _ _ _ ⟨rfl, rfl⟩
      refine SL.nil ?_
      refine T.seq ?_
      refine T.block ?_
      refine T.seq ?_
      refine T.region ?_
      refine SL.y (op_fieldAddr fa41_1 rfl) rfl rfl ?_
      first | refine SL.y (op_load ty39 rfl (by repeat constructor) rfl) rfl rfl ?_ | refine SL.y (op_loadX ty39 rfl (by assumption) rfl) rfl rfl ?_
      first | refine SL.y (op_lssT rfl rfl (by omega)) rfl rfl ?_ | refine SL.y (op_lssF rfl rfl (by omega)) rfl rfl ?_ | refine SL.y (op_lss rfl rfl) rfl rfl ?_
      refine SL.y (op_move rfl) rfl rfl ?_
      first | refine SL.skip rfl rfl ?_ | refine SL.y (op_fieldAddr fa41_1 rfl) rfl rfl ?_
      first | refine SL.skip rfl rfl ?_ | refine SL.y (op_load ty39 rfl (by repeat constructor) rfl) rfl rfl ?_ | refine SL.y (op_loadX ty39 rfl (by assumption) rfl) rfl rfl ?_
      first | refine SL.skip rfl rfl ?_ | refine SL.y (op_gtrT rfl rfl (by omega)) rfl rfl ?_ | refine SL.y (op_gtrF rfl rfl (by omega)) rfl rfl ?_ | refine SL.y (op_gtr rfl rfl) rfl rfl ?_
      first | refine SL.y (op_pickT rfl rfl) rfl rfl ?_ | refine SL.y (op_pickF rfl rfl) rfl rfl ?_ | refine SL.y (op_pickB rfl rfl rfl) rfl rfl ?_
      refine SL.y (op_assign rfl) rfl rfl ?_
      refine SL.nil ?_
      refine T.condT rfl ?_
      refine T.seq ?_
      refine T.region ?_
      refine SL.y (op_assign (v := .int .i64 ((1 : Nat) : Int)) rfl) rfl rfl ?_
      refine SL.nil ?_
      refine T.ret1 rfl (ResIs.tmp rfl) ?_
      rw [chkAll, if_neg h32, chkCs_at hz0 hc2 (by rw [he]; decide), he]; rfl
    by_cases hk3 : 3 < c.kind
    · have he : errC ((cs.take i).map (·.name)) c = 1 := by rw [errC, if_pos (.inr hk3)]
      refine SL.x (op_alloc z41) rfl rfl ?_
      rintro _ _ _ ⟨B4, rfl, rfl, rfl⟩
      refine SL.y (op_assign rfl) rfl rfl ?_
      refine SL.x (op_store ty41 rfl rfl (by repeat constructor) rfl rfl rfl) rfl rfl ?_
      rintro _ _ _ ⟨rfl, rfl⟩
      refine SL.nil ?_
      refine T.seq ?_
      refine T.block ?_
      refine T.seq ?_
      refine T.region ?_
      refine SL.y (op_fieldAddr fa41_1 rfl) rfl rfl ?_
      first | refine SL.y (op_load ty39 rfl (by repeat constructor) rfl) rfl rfl ?_ | refine SL.y (op_loadX ty39 rfl (by assumption) rfl) rfl rfl ?_
      first | refine SL.y (op_lssT rfl rfl (by omega)) rfl rfl ?_ | refine SL.y (op_lssF rfl rfl (by omega)) rfl rfl ?_ | refine SL.y (op_lss rfl rfl) rfl rfl ?_
      refine SL.y (op_move rfl) rfl rfl ?_
      first | refine SL.skip rfl rfl ?_ | refine SL.y (op_fieldAddr fa41_1 rfl) rfl rfl ?_
      first | refine SL.skip rfl rfl ?_ | refine SL.y (op_load ty39 rfl (by repeat constructor) rfl) rfl rfl ?_ | refine SL.y (op_loadX ty39 rfl (by assumption) rfl) rfl rfl ?_
      first | refine SL.skip rfl rfl ?_ | refine SL.y (op_gtrT rfl rfl (by omega)) rfl rfl ?_ | refine SL.y (op_gtrF rfl rfl (by omega)) rfl rfl ?_ | refine SL.y (op_gtr rfl rfl) rfl rfl ?_
      first | refine SL.y (op_pickT rfl rfl) rfl rfl ?_ | refine SL.y (op_pickF rfl rfl) rfl rfl ?_ | refine SL.y (op_pickB rfl rfl rfl) rfl rfl ?_
      refine SL.y (op_assign rfl) rfl rfl ?_
      refine SL.nil ?_
      refine T.condT rfl ?_
      refine T.seq ?_
      refine T.region ?_
      refine SL.y (op_assign (v := .int .i64 ((1 : Nat) : Int)) rfl) rfl rfl ?_
      refine SL.nil ?_
      refine T.ret1 rfl (ResIs.tmp rfl) ?_
      rw [chkAll, if_neg h32, chkCs_at hz0 hc2 (by rw [he]; decide), he]; rfl
    have hk : ¬(c.kind < 1 ∨ 3 < c.kind) := fun h => by omega
    refine SL.x (op_alloc z41) rfl rfl ?_
    rintro _ _ _ ⟨B4, rfl, rfl, rfl⟩
    refine SL.y (op_assign rfl) rfl rfl ?_
    refine SL.x (op_store ty41 rfl rfl (by repeat constructor) rfl rfl rfl) rfl rfl ?_
    rintro _ _ _ ⟨rfl, rfl⟩
    refine SL.nil ?_
    refine T.seq ?_
    refine T.block ?_
    refine T.seq ?_
    refine T.region ?_
    refine SL.y (op_fieldAddr fa41_1 rfl) rfl rfl ?_
    first | refine SL.y (op_load ty39 rfl (by repeat constructor) rfl) rfl rfl ?_ | refine SL.y (op_loadX ty39 rfl (by assumption) rfl) rfl rfl ?_
    first | refine SL.y (op_lssT rfl rfl (by omega)) rfl rfl ?_ | refine SL.y (op_lssF rfl rfl (by omega)) rfl rfl ?_ | refine SL.y (op_lss rfl rfl) rfl rfl ?_
    refine SL.y (op_move rfl) rfl rfl ?_
    first | refine SL.skip rfl rfl ?_ | refine SL.y (op_fieldAddr fa41_1 rfl) rfl rfl ?_
    first | refine SL.skip rfl rfl ?_ | refine SL.y (op_load ty39 rfl (by repeat constructor) rfl) rfl rfl ?_ | refine SL.y (op_loadX ty39 rfl (by assumption) rfl) rfl rfl ?_
    first | refine SL.skip rfl rfl ?_ | refine SL.y (op_gtrT rfl rfl (by omega)) rfl rfl ?_ | refine SL.y (op_gtrF rfl rfl (by omega)) rfl rfl ?_ | refine SL.y (op_gtr rfl rfl) rfl rfl ?_
    first | refine SL.y (op_pickT rfl rfl) rfl rfl ?_ | refine SL.y (op_pickF rfl rfl) rfl rfl ?_ | refine SL.y (op_pickB rfl rfl rfl) rfl rfl ?_
    refine SL.y (op_assign rfl) rfl rfl ?_
    refine SL.nil ?_
    refine T.pub B4 (by repeat constructor) ?_
    intro X2 hX2 hB4 _
    have hB4 : Blk X2 B4 (rc7 (c.enf, c.kind, c.name, .int .u8 (o8 : Int), .int .i64 n8, .slice a8 l8 c8, .slice b8 l9 c9)) := hB4
    refine T.condF rfl ?_
    refine T.seq ?_
    refine T.region ?_
    refine SL.y (op_fieldAddr fa41_2 rfl) rfl rfl ?_
    first | refine SL.y (op_load ty9 rfl (by repeat constructor) rfl) rfl rfl ?_ | refine SL.y (op_loadX ty9 rfl (by assumption) rfl) rfl rfl ?_
    refine SL.x (op_callF en24 (vs := [_]) rfl (nvalid_spec)) rfl rfl ?_
    rintro _ _ X3 ⟨rfl, hX3, rfl⟩
    by_cases hv : validS c.name
    case neg =>
      have he : errC ((cs.take i).map (·.name)) c = 9 := by rw [errC, if_neg hk, if_pos hv]
      rw [decide_eq_false hv]
      refine SL.y (op_not rfl) rfl rfl ?_
      refine SL.y (op_assign rfl) rfl rfl ?_
      refine SL.nil ?_
      refine T.condT rfl ?_
      refine T.seq ?_
      refine T.region ?_
      refine SL.y (op_assign (v := .int .i64 ((9 : Nat) : Int)) rfl) rfl rfl ?_
      refine SL.nil ?_
      refine T.ret1 rfl (ResIs.tmp rfl) ?_
      rw [chkAll, if_neg h32, chkCs_at hz0 hc2 (by rw [he]; decide), he]; rfl
    rw [decide_eq_true hv]
    refine SL.y (op_not rfl) rfl rfl ?_
    refine SL.y (op_assign rfl) rfl rfl ?_
    refine SL.nil ?_
    refine T.condF rfl ?_
    refine T.seq ?_
    refine T.region ?_
    refine SL.y (op_move rfl) rfl rfl ?_
    refine SL.y (op_move rfl) rfl rfl ?_
    refine SL.y (op_sliceHi (l := i) Tryz.underlying27 ty41 rfl rfl (by omega)) rfl rfl ?_
    refine SL.y (op_makeFunc (vs := []) (us := [_]) rfl rfl) rfl rfl ?_
    have hcall := conC_spec (((htk.mono hX1).mono hX2).mono hX3) (hB4.mono hX3) hlt
    rw [List.length_take, Nat.min_eq_left (by omega)] at hlt
    refine SL.x (op_callF en25 (vs := [_, _]) rfl (hcall)) rfl rfl ?_
    rintro _ _ X4 ⟨rfl, hX4, rfl⟩
    by_cases hm : c.name ∈ (cs.take i).map (·.name)
    · have he : errC ((cs.take i).map (·.name)) c = 5 := by rw [errC, if_neg hk, if_neg (fun h => h hv), if_pos hm]
      rw [decide_eq_true hm]
      refine SL.y (op_assign rfl) rfl rfl ?_
      refine SL.nil ?_
      refine T.condT rfl ?_
      refine T.seq ?_
      refine T.region ?_
      refine SL.y (op_assign (v := .int .i64 ((5 : Nat) : Int)) rfl) rfl rfl ?_
      refine SL.nil ?_
      refine T.ret1 rfl (ResIs.tmp rfl) ?_
      rw [chkAll, if_neg h32, chkCs_at hz0 hc2 (by rw [he]; decide), he]; rfl
    rw [decide_eq_false hm]
    have he : errC ((cs.take i).map (·.name)) c = chkE c.ex := by rw [errC, if_neg hk, if_neg (fun h => h hv), if_neg hm]
    have hX14 := ((hX1.trans' hX2).trans' hX3).trans' hX4
    refine SL.y (op_assign rfl) rfl rfl ?_
    refine SL.nil ?_
    refine T.condF rfl ?_
    refine T.skip ?_
    refine T.blk ?_
    refine T.seq ?_
    refine T.region ?_
    refine SL.y (op_fieldAddr fa41_3 rfl) rfl rfl ?_
    refine SL.y (op_loadX ty35 rfl ((hB4.mono hX3).mono hX4) rfl) rfl rfl ?_
    refine SL.x (op_callF en21 (vs := [_]) rfl (chk_spec (by omega) (hex.mono hX14))) rfl rfl ?_
    rintro _ _ X5 ⟨rfl, hX5, rfl⟩
    by_cases hz : chkE c.ex = 0
    · skip
      refine SL.y (op_assign rfl) rfl rfl ?_
      refine SL.nil ?_
      refine T.seq ?_
      refine T.region ?_
      refine SL.y (op_move rfl) rfl rfl ?_
      first | refine SL.y (op_neqT rfl rfl (by omega)) rfl rfl ?_ | refine SL.y (op_neqF rfl rfl (by omega)) rfl rfl ?_ | refine SL.y (op_neq rfl rfl) rfl rfl ?_
      refine SL.nil ?_
      refine T.condF rfl ?_
      refine T.skip ?_
      refine T.blk ?_
      refine T.region ?_
      first | refine SL.y (op_addN (q := 1) rfl rfl (by omega)) rfl rfl ?_ | refine SL.y (op_add rfl rfl (by omega) (by omega)) rfl rfl ?_ | refine SL.y (op_addW rfl rfl) rfl rfl ?_
      refine SL.y (op_move rfl) rfl rfl ?_
      refine SL.nil ?_
      exact T.backW (rows.length - (i + 1)) (by omega) ⟨i + 1, rfl, by omega, hX14.trans' hX5, chkCs_snoc hz0 hc2 (he.trans hz), rfl, rfl⟩ (by repeat (first | exact Sub.nil | refine Sub.cons rfl ?_))
    · refine SL.y (op_assign rfl) rfl rfl ?_
      refine SL.nil ?_
      refine T.seq ?_
      refine T.region ?_
      refine SL.y (op_move rfl) rfl rfl ?_
      first | refine SL.y (op_neqT rfl rfl (by omega)) rfl rfl ?_ | refine SL.y (op_neqF rfl rfl (by omega)) rfl rfl ?_ | refine SL.y (op_neq rfl rfl) rfl rfl ?_
      refine SL.nil ?_
      refine T.condT rfl ?_
      refine T.seq ?_
      refine T.region ?_
      refine SL.y (op_move rfl) rfl rfl ?_
      refine SL.y (op_assign rfl) rfl rfl ?_
      refine SL.nil ?_
      refine T.ret1 rfl (ResIs.tmp rfl) ?_
      rw [chkAll, if_neg h32, chkCs_at hz0 hc2 (by rw [he]; exact hz), he, if_pos hz]
  · obtain rfl : i = rows.length := by omega
    have e : cs.take rows.length = cs := List.take_of_length_le (by omega)
    rw [e] at hz0
    have hll := linesL_len (cs := cs) fun c hc => (chkCs_mem hz0 c hc).2.2.1.2.1
    have hsz : (⟨(linesL cs).toArray⟩ : ByteArray).size = (linesL cs).length := by show (linesL cs).toArray.size = _; simp
    refine T.seq ?_
    refine T.region ?_
    first | refine SL.y (op_lssT rfl rfl (by omega)) rfl rfl ?_ | refine SL.y (op_lssF rfl rfl (by omega)) rfl rfl ?_ | refine SL.y (op_lss rfl rfl) rfl rfl ?_
    refine SL.nil ?_
    refine T.seq ?_
    refine T.condF rfl ?_
    refine T.exit (T.exitCode (T.exitCut (T.exitBlk ?_)))
    refine T.seq ?_
    refine T.seq ?_
    refine T.region ?_
    refine SL.y (op_move rfl) rfl rfl ?_
    refine SL.x (op_callF en17 (vs := [_]) rfl (lines_spec (hI.mono hX1) (hcs.mono hX1) hl h0 hw hww (fun c hc => hn c hc (chkCs_mem hz0 c hc).2.2.2) (chkCs_mem hz0))) rfl rfl ?_
    rintro _ _ X5 ⟨rfl, hX5, rfl⟩
    by_cases h8 : 8000 < (linesL cs).length
    · skip
      refine SL.y (op_lenStr Tryz.underlying9 rfl) rfl rfl ?_
      first | refine SL.y (op_gtrT rfl rfl (by omega)) rfl rfl ?_ | refine SL.y (op_gtrF rfl rfl (by omega)) rfl rfl ?_ | refine SL.y (op_gtr rfl rfl) rfl rfl ?_
      refine SL.nil ?_
      refine T.condT rfl ?_
      refine T.seq ?_
      refine T.region ?_
      refine SL.y (op_assign (v := .int .i64 ((3 : Nat) : Int)) rfl) rfl rfl ?_
      refine SL.nil ?_
      refine T.ret1 rfl (ResIs.tmp rfl) ?_
      rw [chkAll, if_neg h32, if_neg (by simp [hz0]), if_pos h8]; rfl
    · refine SL.y (op_lenStr Tryz.underlying9 rfl) rfl rfl ?_
      first | refine SL.y (op_gtrT rfl rfl (by omega)) rfl rfl ?_ | refine SL.y (op_gtrF rfl rfl (by omega)) rfl rfl ?_ | refine SL.y (op_gtr rfl rfl) rfl rfl ?_
      refine SL.nil ?_
      refine T.condF rfl ?_
      refine T.skip ?_
      refine T.seq ?_
      refine T.region ?_
      refine SL.y (op_assign (v := .int .i64 ((0 : Nat) : Int)) rfl) rfl rfl ?_
      refine SL.nil ?_
      refine T.ret1 rfl (ResIs.tmp rfl) ?_
      rw [chkAll, if_neg h32, if_neg (by simp [hz0]), if_neg h8]; rfl
theorem cprint_spec {M : Nat} {X : PMap} (hI : ItoaOk M X) {v : Value} {cs : List Con} (h : ConsR X v cs) (hl : cs.length ≤ 40) (h0 : 0 < cs.length) (hw : wtC cs < 15000000) (hww : ∀ c ∈ cs, wtE c.ex < 900000) (hn : ∀ c ∈ cs, chkE c.ex = 0 → numE M c.ex)
    : Spec Tryz.prog 6 [v] X fun u _ => u = .string (if chkAll cs = 0 then ⟨(linesL cs).toArray⟩ else ⟨#[]⟩) := by
  obtain ⟨A, cp, rfl⟩ : ∃ A cp, v = .slice A cs.length cp := by
    obtain ⟨rows, hr, hrl, _⟩ := h
    obtain ⟨A, cp, rfl⟩ := hr.form
    exact ⟨A, cp, by rw [hrl]⟩
  by_cases hc : chkAll cs = 0
  · have hz0 : chkCs [] cs = 0 := by
      unfold chkAll at hc
      split at hc
      · cases hc
      · split at hc
        · rename_i h2; exact absurd hc h2
        · rename_i h2; exact Decidable.not_not.1 h2
    refine Spec.enter Tryz.func6 rfl Tryz.ntmps6 rfl ?_
    intro w0 hw0
    refine T.seq ?_
    refine T.region ?_
    refine SL.y (op_assign rfl) rfl rfl ?_
    refine SL.nil ?_
    refine T.seq ?_
    refine T.seq ?_
    refine T.region ?_
    refine SL.y (op_move rfl) rfl rfl ?_
    refine SL.x (op_callF en16 (vs := [_]) rfl (check_spec hI h hl h0 hw hww hn)) rfl rfl ?_
    rintro _ _ X1 ⟨rfl, hX1, rfl⟩
    first | refine SL.y (op_neqT rfl rfl (by omega)) rfl rfl ?_ | refine SL.y (op_neqF rfl rfl (by omega)) rfl rfl ?_ | refine SL.y (op_neq rfl rfl) rfl rfl ?_
    refine SL.nil ?_
    refine T.condF rfl ?_
    refine T.skip ?_
    refine T.seq ?_
    refine T.region ?_
    refine SL.y (op_move rfl) rfl rfl ?_
    refine SL.x (op_callF en17 (vs := [_]) rfl (lines_spec (hI.mono hX1) (h.mono hX1) hl h0 hw hww (fun c hc => hn c hc (chkCs_mem hz0 c hc).2.2.2) (chkCs_mem hz0))) rfl rfl ?_
    rintro _ _ X2 ⟨rfl, hX2, rfl⟩
    refine SL.y (op_assign rfl) rfl rfl ?_
    refine SL.nil ?_
    refine T.ret1 rfl (ResIs.tmp rfl) ?_
    rw [if_pos hc]
  · refine Spec.enter Tryz.func6 rfl Tryz.ntmps6 rfl ?_
    intro w0 hw0
    refine T.seq ?_
    refine T.region ?_
    refine SL.y (op_assign rfl) rfl rfl ?_
    refine SL.nil ?_
    refine T.seq ?_
    refine T.seq ?_
    refine T.region ?_
    refine SL.y (op_move rfl) rfl rfl ?_
    refine SL.x (op_callF en16 (vs := [_]) rfl (check_spec hI h hl h0 hw hww hn)) rfl rfl ?_
    rintro _ _ X1 ⟨rfl, hX1, rfl⟩
    first | refine SL.y (op_neqT rfl rfl (by omega)) rfl rfl ?_ | refine SL.y (op_neqF rfl rfl (by omega)) rfl rfl ?_ | refine SL.y (op_neq rfl rfl) rfl rfl ?_
    refine SL.nil ?_
    refine T.condT rfl ?_
    refine T.seq ?_
    refine T.region ?_
    refine SL.y (op_assign rfl) rfl rfl ?_
    refine SL.nil ?_
    refine T.ret1 rfl (ResIs.tmp rfl) ?_
    rw [if_neg hc]
end Go.Proofs.YtaooojjhlngcmaaGreatDoor
namespace Go.Proofs.YtaooojjhlngcmaaGreatDoor
section
set_option maxRecDepth 100000
theorem bs41 : ∃ i z, Tryz.prog.info? 41 = some i ∧ i.size = 7 ∧ i.zero = some z ∧ z.cells = ([.bool false, .int .u8 0, .string ⟨#[]⟩, .int .u8 0, .int .i64 0, .slice none 0 0, .slice none 0 0] : List Value).toArray := bs_of (by kernel_rfl)
theorem en10 : Enters Tryz.prog 10 := enters_mk Tryz.func10 (by kernel_rfl) rfl
theorem en11 : Enters Tryz.prog 11 := enters_mk Tryz.func11 (by kernel_rfl) rfl
theorem en6 : Enters Tryz.prog 6 := enters_mk Tryz.func6 (by kernel_rfl) rfl
theorem en9 : Enters Tryz.prog 9 := enters_mk Tryz.func9 (by kernel_rfl) rfl
theorem st41 : StT Tryz.prog 41 [(0, 1), (1, 1), (2, 1), (3, 4)] [.bool false, .int .u8 0, .string ⟨#[]⟩, .int .u8 0, .int .i64 0, .slice none 0 0, .slice none 0 0] := ⟨⟨_, Tryz.underlying41, fun _ => by kernel_rfl, z41⟩⟩
end
open Go.RowKit
theorem itoa10 {X : PMap} (v : Nat) (h : v < 10) : Spec Tryz.prog 36 [.int .i64 (v : Int)] X fun u _ => u = .string (decB v) := by
  have := itoa_spec (X := X) v h
  have e : decB v = ⟨#[UInt8.ofNat (48 + v)]⟩ := by rw [decB, decG, if_pos h]
  rwa [← e] at this
def leafE (s : ByteArray) : Ex := .mk 4 0 [s] []
theorem leaf_spec {X : PMap} {s : ByteArray} : Spec Tryz.prog 9 [.string s] X fun u X' => ∃ r : Row4, u = .agg #[r.1, r.2.1, r.2.2.1, r.2.2.2] ∧ ExR .u8 X' (leafE s) r := by
  refine Spec.enter Tryz.func9 rfl Tryz.ntmps9 rfl ?_
  intro w0 hw0
  refine T.seq ?_
  refine T.region ?_
  refine SL.x (op_alloc z35) rfl rfl ?_
  rintro _ _ _ ⟨B2, rfl, rfl, rfl⟩
  refine SL.nil ?_
  refine T.seq ?_
  refine T.region ?_
  refine SL.y (op_move rfl) rfl rfl ?_
  refine SL.x (op_buildSlice Tryz.underlying32 bs9 (qs := [(0, _)]) rfl rfl rfl rfl rfl) rfl rfl ?_
  rintro _ _ _ ⟨B4, rfl, rfl, rfl⟩
  refine SL.y (op_build st35 (qs := [(0, _), (2, _)]) rfl rfl) rfl rfl ?_
  refine SL.x (op_store ty35 rfl rfl (by repeat constructor) rfl rfl rfl) rfl rfl ?_
  rintro _ _ _ ⟨rfl, rfl⟩
  refine SL.nil ?_
  refine T.pub B4 (by repeat constructor) ?_
  intro X1 hX1 hB4 _
  refine T.ret1 rfl (ResIs.cell rfl ty35 (by repeat constructor) rfl) ?_
  exact ⟨(.int .u8 ((4 : Nat) : Int), .int .i64 0, .slice (some ⟨B4, 0, none⟩) 1 1, .slice none 0 0), rfl, .mk (rows := []) (.inr ⟨by simp, B4, 1, [], rfl, hB4, by simp, by decide⟩) (.inl ⟨rfl, _, _, rfl⟩) rfl (fun i a r h => by simp at h)⟩
theorem pair_spec {X : PMap} {op : Nat} {a b : Ex} {ra rb : Row4} (ha : ExR .u8 X a ra) (hb : ExR .u8 X b rb) : Spec Tryz.prog 10 [.int .u8 (op : Int), .agg #[ra.1, ra.2.1, ra.2.2.1, ra.2.2.2], .agg #[rb.1, rb.2.1, rb.2.2.1, rb.2.2.2]] X fun u X' => ∃ r : Row4, u = .agg #[r.1, r.2.1, r.2.2.1, r.2.2.2] ∧ ExR .u8 X' (.mk op 0 [] [a, b]) r := by
  obtain ⟨o1, n1, a1, b1, l1, c1, l2, c2, rfl⟩ := ha.form
  obtain ⟨o3, n3, a3, b3, l3, c3, l4, c4, rfl⟩ := hb.form
  refine Spec.enter Tryz.func10 rfl Tryz.ntmps10 rfl ?_
  intro w0 hw0
  refine T.seq ?_
  refine T.region ?_
  refine SL.x (op_box rfl) rfl rfl ?_
  rintro _ _ _ ⟨B4, rfl, rfl, rfl⟩
  refine SL.x (op_box rfl) rfl rfl ?_
  rintro _ _ _ ⟨B5, rfl, rfl, rfl⟩
  refine SL.x (op_alloc z35) rfl rfl ?_
  rintro _ _ _ ⟨B6, rfl, rfl, rfl⟩
  refine SL.nil ?_
  refine T.seq ?_
  refine T.region ?_
  refine SL.y (op_move rfl) rfl rfl ?_
  first | refine SL.y (op_load ty35 rfl (by repeat constructor) rfl) rfl rfl ?_ | refine SL.y (op_loadX ty35 rfl (by assumption) rfl) rfl rfl ?_
  first | refine SL.y (op_load ty35 rfl (by repeat constructor) rfl) rfl rfl ?_ | refine SL.y (op_loadX ty35 rfl (by assumption) rfl) rfl rfl ?_
  refine SL.x (op_buildSlice Tryz.underlying33 bs35 (qs := [(0, _), (1, _)]) rfl rfl rfl rfl rfl) rfl rfl ?_
  rintro _ _ _ ⟨B10, rfl, rfl, rfl⟩
  refine SL.y (op_build st35 (qs := [(0, _), (3, _)]) rfl rfl) rfl rfl ?_
  refine SL.x (op_store ty35 rfl rfl (by repeat constructor) rfl rfl rfl) rfl rfl ?_
  rintro _ _ _ ⟨rfl, rfl⟩
  refine SL.nil ?_
  refine T.pub B10 (by repeat constructor) ?_
  intro X1 hX1 hB10 _
  refine T.ret1 rfl (ResIs.cell rfl ty35 (by repeat constructor) rfl) ?_
  refine ⟨(.int .u8 (op : Int), .int .i64 0, .slice none 0 0, .slice (some ⟨B10, 0, none⟩) 2 2), rfl, .mk (rows := [(.int .u8 (o1 : Int), .int .i64 n1, .slice a1 l1 c1, .slice b1 l2 c2), (.int .u8 (o3 : Int), .int .i64 n3, .slice a3 l3 c3, .slice b3 l4 c4)]) (.inl ⟨rfl, _, _, rfl⟩) (.inr ⟨by simp, B10, 2, [], rfl, hB10, by simp, by decide⟩) rfl (fun i x r h h' => ?_)⟩
  match i, h, h' with
  | 0, h, h' => cases h; cases h'; exact ha.mono hX1
  | 1, h, h' => cases h; cases h'; exact hb.mono hX1
theorem valid_of {s : ByteArray} (h1 : s.size ≠ 0) (h2 : s.size ≤ 12) (h3 : s ∉ keyws) (h4 : (List.range s.size).all (fun k => match s[k]? with | some b => innB b && (k != 0 || letB b) | none => true) = true) : validS s := by
  refine ⟨h1, h2, h3, fun k b _ hb => ?_⟩
  have hk : k < s.size := by
    rcases Nat.lt_or_ge k s.size with h | h
    · exact h
    · rw [ByteArray.getElem?_ge' s k (by omega)] at hb; cases hb
  have := List.all_eq_true.1 h4 k (List.mem_range.2 hk)
  rw [hb] at this
  simp only [Bool.and_eq_true, Bool.or_eq_true, bne_iff_ne, ne_eq] at this
  exact ⟨this.1, fun h0 => this.2.resolve_left fun h => h h0⟩
theorem valA : validS ⟨#[97]⟩ := valid_of (by decide) (by decide) (by simp [keyws]) (by decide)
theorem valB : validS ⟨#[98]⟩ := valid_of (by decide) (by decide) (by simp [keyws]) (by decide)
theorem valC : validS ⟨#[99]⟩ := valid_of (by decide) (by decide) (by simp [keyws]) (by decide)
theorem valSod : validS ⟨#[115, 111, 100]⟩ := valid_of (by decide) (by decide) (by simp [keyws]) (by decide)
theorem node_of {op : Nat} {n : Int} {ns : List ByteArray} {al : List Ex} (h1 : ¬(op < 1 ∨ 16 < op ∨ al.length ≠ argN op)) (h2 : ¬((n ≠ 0 ∧ op ≠ 1) ∨ ¬namN op ns.length)) (h3 : ∀ s ∈ ns, validS s) (h4 : ns.Nodup) (h5 : ¬(n < 0 ∨ 999999 < n)) (h6 : nodeL al = 0) : nodeE (.mk op n ns al) = 0 := by
  rw [node_args (own0' h1 h2 h3 h4 h5), h6]
theorem nodeL_of {al : List Ex} (h : ∀ a ∈ al, nodeE a = 0) : nodeL al = 0 := by
  induction al with
  | nil => rfl
  | cons a al ih => rw [nodeL, if_neg (fun hh => hh (h a (by simp))), ih fun x hx => h x (by simp [hx])]
theorem leaf_node {s : ByteArray} (h : validS s) : nodeE (leafE s) = 0 := node_of (by decide) (fun h => h.elim (fun h => h.1 rfl) (fun h => h (show namN 4 1 by decide))) (fun t ht => by rw [List.mem_singleton.1 ht]; exact h) (by simp) (by decide) rfl
theorem two_node {op : Nat} {a b : Ex} (h1 : 8 ≤ op) (h2 : op ≤ 16) (ha : nodeE a = 0) (hb : nodeE b = 0) : nodeE (.mk op 0 [] [a, b]) = 0 := by
  refine node_of ?_ ?_ (fun t ht => by cases ht) (by simp) (by decide) (nodeL_of fun x hx => ?_)
  · have : argN op = 2 := by unfold argN; rw [if_neg (by omega), if_neg (by omega)]
    simp only [List.length_cons, List.length_nil]; omega
  · rintro (⟨h, _⟩ | h)
    · exact h rfl
    · refine h ?_
      unfold namN
      rw [if_neg (by omega), if_neg (by omega)]; rfl
  · rcases List.mem_cons.1 hx with rfl | hx
    · exact ha
    · rw [List.mem_singleton.1 hx]; exact hb
def lA : Ex := leafE ⟨#[97]⟩
def lB : Ex := leafE ⟨#[98]⟩
def lC : Ex := leafE ⟨#[99]⟩
def eNot : Ex := .mk 7 0 [] [.mk 8 0 [] [lA, lB]]
def eLe : Ex := .mk 11 0 [] [.mk 5 0 [⟨#[97]⟩, ⟨#[98]⟩] [], .mk 1 1 [] []]
theorem chk_of {e : Ex} (h1 : decide (depE e ≤ 10 ∧ sizE e ≤ 200) = true) (h2 : nodeE e = 0) : chkE e = 0 := by
  have := of_decide_eq_true h1
  rw [chkE, if_neg (by omega), h2]
theorem chk1 : chkE (.mk 8 0 [] [lA, .mk 8 0 [] [lB, lC]]) = 0 := chk_of (by kernel_rfl) (two_node (by decide) (by decide) (leaf_node valA) (two_node (by decide) (by decide) (leaf_node valB) (leaf_node valC)))
theorem chk2 : chkE (.mk 10 0 [] [lA, .mk 10 0 [] [lB, lC]]) = 0 := chk_of (by kernel_rfl) (two_node (by decide) (by decide) (leaf_node valA) (two_node (by decide) (by decide) (leaf_node valB) (leaf_node valC)))
theorem chk3 : chkE eNot = 0 := chk_of (by kernel_rfl) (node_of (by decide) (by decide) (fun t ht => by cases ht) (by simp) (by decide) (nodeL_of fun x hx => by rw [List.mem_singleton.1 hx]; exact two_node (by decide) (by decide) (leaf_node valA) (leaf_node valB)))
theorem chk4 : chkE eLe = 0 := chk_of (by kernel_rfl) (two_node (by decide) (by decide) (node_of (by decide) (by decide) (fun t ht => by
  rcases List.mem_cons.1 ht with rfl | ht
  · exact valA
  · rw [List.mem_singleton.1 ht]; exact valB) (by simp) (by decide) rfl) (node_of (by decide) (by decide) (fun t ht => by cases ht) (by simp) (by decide) rfl))
def cSod : Con := ⟨true, 1, ⟨#[115, 111, 100]⟩, eLe⟩
theorem chk5 : chkAll [cSod] = 0 := by
  have e : errC [] cSod = 0 := by
    rw [errC, if_neg (by decide), if_neg (fun h => h valSod), if_neg (by simp), show cSod.ex = eLe from rfl, chk4]
  have e2 : chkCs [] [cSod] = 0 := by rw [chkCs, if_neg (fun h => h e), chkCs]
  rw [chkAll, if_neg (by decide), if_neg (fun h => h e2), if_neg (of_decide_eq_true (by kernel_rfl))]
theorem num10 {e : Ex} (h : e = .mk 8 0 [] [lA, .mk 8 0 [] [lB, lC]] ∨ e = .mk 10 0 [] [lA, .mk 10 0 [] [lB, lC]] ∨ e = eNot ∨ e = eLe) : numE 10 e := by
  rcases h with rfl | rfl | rfl | rfl <;> simp [numE, numL, eNot, eLe, lA, lB, lC, leafE]
theorem tx1 : textE (.mk 8 0 [] [lA, .mk 8 0 [] [lB, lC]]) = ⟨#[97, 32, 97, 110, 100, 32, 40, 98, 32, 97, 110, 100, 32, 99, 41]⟩ := by kernel_rfl
theorem tx2 : textE (.mk 10 0 [] [lA, .mk 10 0 [] [lB, lC]]) = ⟨#[97, 32, 45, 62, 32, 98, 32, 45, 62, 32, 99]⟩ := by kernel_rfl
theorem tx3 : textE eNot = ⟨#[110, 111, 116, 32, 40, 97, 32, 97, 110, 100, 32, 98, 41]⟩ := by kernel_rfl
theorem tx4 : (⟨(linesL [cSod]).toArray⟩ : ByteArray) = ⟨#[101, 110, 102, 111, 114, 99, 101, 32, 115, 116, 97, 116, 105, 99, 32, 115, 111, 100, 58, 32, 99, 111, 117, 110, 116, 40, 97, 44, 32, 98, 41, 32, 60, 61, 32, 49, 59, 10]⟩ := by kernel_rfl
theorem awake16_spec {X : PMap} : Spec Tryz.prog 4 [] X fun u _ => u = .bool true := by
  have hI : ∀ {X : PMap}, ItoaOk 10 X := fun _ _ v h => itoa10 v h
  refine Spec.enter Tryz.func4 rfl Tryz.ntmps4 rfl ?_
  intro w0 hw0
  refine T.seq ?_
  refine T.region ?_
  refine SL.y (op_assign rfl) rfl rfl ?_
  refine SL.nil ?_
  refine T.seq ?_
  refine T.region ?_
  refine SL.x (op_callF en9 (vs := [_]) rfl (leaf_spec (s := ⟨#[97]⟩))) rfl rfl ?_
  rintro _ _ X1 ⟨rfl, hX1, rA, rfl, hA⟩
  refine SL.x (op_callF en9 (vs := [_]) rfl (leaf_spec (s := ⟨#[98]⟩))) rfl rfl ?_
  rintro _ _ X2 ⟨rfl, hX2, rB, rfl, hB⟩
  refine SL.x (op_callF en9 (vs := [_]) rfl (leaf_spec (s := ⟨#[99]⟩))) rfl rfl ?_
  rintro _ _ X3 ⟨rfl, hX3, rC, rfl, hC⟩
  have hA := (hA.mono hX2).mono hX3
  have hB := hB.mono hX3
  obtain ⟨oa, na, aa, ba, la, ca, la2, ca2, rfl⟩ := hA.form
  obtain ⟨ob, nb, ab, bb, lb, cb, lb2, cb2, rfl⟩ := hB.form
  obtain ⟨oc, nc, ac, bc, lc, cc, lc2, cc2, rfl⟩ := hC.form
  refine SL.x (op_alloc z35) rfl rfl ?_
  rintro _ _ _ ⟨B1, rfl, rfl, rfl⟩
  refine SL.x (op_alloc z35) rfl rfl ?_
  rintro _ _ _ ⟨B2, rfl, rfl, rfl⟩
  refine SL.x (op_alloc z35) rfl rfl ?_
  rintro _ _ _ ⟨B3, rfl, rfl, rfl⟩
  refine SL.x (op_store ty35 rfl rfl (by repeat constructor) rfl rfl rfl) rfl rfl ?_
  rintro _ _ _ ⟨rfl, rfl⟩
  refine SL.x (op_store ty35 rfl rfl (by repeat constructor) rfl rfl rfl) rfl rfl ?_
  rintro _ _ _ ⟨rfl, rfl⟩
  refine SL.x (op_store ty35 rfl rfl (by repeat constructor) rfl rfl rfl) rfl rfl ?_
  rintro _ _ _ ⟨rfl, rfl⟩
  refine SL.nil ?_
  refine T.seq ?_
  refine T.region ?_
  first | refine SL.y (op_load ty35 rfl (by repeat constructor) rfl) rfl rfl ?_ | refine SL.y (op_loadX ty35 rfl (by assumption) rfl) rfl rfl ?_
  first | refine SL.y (op_load ty35 rfl (by repeat constructor) rfl) rfl rfl ?_ | refine SL.y (op_loadX ty35 rfl (by assumption) rfl) rfl rfl ?_
  refine SL.x (op_callF en10 (vs := [_, _, _]) rfl (pair_spec (op := 8) hA hB)) rfl rfl ?_
  rintro _ _ X4 ⟨rfl, hX4, rP, rfl, hP⟩
  obtain ⟨op, np, ap, bp, lp, cp, lp2, cp2, rfl⟩ := hP.form
  refine SL.x (op_buildSlice Tryz.underlying33 bs35 (qs := [(0, _)]) rfl rfl rfl rfl rfl) rfl rfl ?_
  rintro _ _ _ ⟨B12, rfl, rfl, rfl⟩
  refine SL.y (op_build st35 (qs := [(0, _), (3, _)]) rfl rfl) rfl rfl ?_
  refine SL.x (op_alloc z35) rfl rfl ?_
  rintro _ _ _ ⟨B4, rfl, rfl, rfl⟩
  refine SL.x (op_store ty35 rfl rfl (by repeat constructor) rfl rfl rfl) rfl rfl ?_
  rintro _ _ _ ⟨rfl, rfl⟩
  refine SL.nil ?_
  refine T.seq ?_
  refine T.region ?_
  refine SL.x (op_buildSlice Tryz.underlying32 bs9 (qs := [(0, _), (1, _)]) rfl rfl rfl rfl rfl) rfl rfl ?_
  rintro _ _ _ ⟨B14, rfl, rfl, rfl⟩
  refine SL.y (op_build st35 (qs := [(0, _), (2, _)]) rfl rfl) rfl rfl ?_
  refine SL.y (op_build st35 (qs := [(0, _), (1, _)]) rfl rfl) rfl rfl ?_
  refine T.pubAt B12 (by repeat constructor) ?_
  intro X5 hX5 hB12 _
  refine T.pubAt B14 (by repeat constructor) ?_
  intro X6 hX6 hB14 _
  have hNot : ExR .u8 X6 eNot (.int .u8 ((7 : Nat) : Int), .int .i64 0, .slice none 0 0, .slice (some ⟨B12, 0, none⟩) 1 1) := .mk (rows := [(.int .u8 (op : Int), .int .i64 np, .slice ap lp cp, .slice bp lp2 cp2)]) (.inl ⟨rfl, _, _, rfl⟩) (.inr ⟨by simp, B12, 1, [], rfl, hB12.mono hX6, by simp, by decide⟩) rfl (fun i x r h h' => by
    match i, h, h' with
    | 0, h, h' => cases h; cases h'; exact (hP.mono hX5).mono hX6)
  have hCnt : ExR .u8 X6 (.mk 5 0 [⟨#[97]⟩, ⟨#[98]⟩] []) (.int .u8 ((5 : Nat) : Int), .int .i64 0, .slice (some ⟨B14, 0, none⟩) 2 2, .slice none 0 0) := .mk (rows := []) (.inr ⟨by simp, B14, 2, [], rfl, hB14, by simp, by decide⟩) (.inl ⟨rfl, _, _, rfl⟩) rfl (fun i a r h => by simp at h)
  have hNum : ExR .u8 X6 (.mk 1 1 [] []) (.int .u8 ((1 : Nat) : Int), .int .i64 1, .slice none 0 0, .slice none 0 0) := .mk (rows := []) (.inl ⟨rfl, _, _, rfl⟩) (.inl ⟨rfl, _, _, rfl⟩) rfl (fun i a r h => by simp at h)
  have hcall := pair_spec (op := 11) hCnt hNum
  simp only at hcall
  refine SL.x (op_callF en10 (vs := [_, _, _]) rfl (hcall)) rfl rfl ?_
  rintro _ _ X7 ⟨rfl, hX7, rL, rfl, hL⟩
  obtain ⟨ol, nl, al, bl, ll, cl, ll2, cl2, rfl⟩ := hL.form
  have hX47 := ((hX4.trans' hX5).trans' hX6).trans' hX7
  have hA := hA.mono hX47
  have hB := hB.mono hX47
  have hC := hC.mono hX47
  refine SL.x (op_alloc z35) rfl rfl ?_
  rintro _ _ _ ⟨B5, rfl, rfl, rfl⟩
  refine SL.x (op_store ty35 rfl rfl (by repeat constructor) rfl rfl rfl) rfl rfl ?_
  rintro _ _ _ ⟨rfl, rfl⟩
  refine SL.nil ?_
  refine T.seq ?_
  refine T.draw (by kernel_rfl) 34 [.t 0, .t 1, .t 2, .r 3, .r 4, .r 5, .t 6, .t 7, .t 8, .t 9, .t 10, .r 11, .r 12, .r 13, .t 14, .t 15, .t 16, .t 17, .r 18, .t 19, .t 20, .t 21, .t 22, .t 23, .r 24, .r 25, .t 26, .t 27, .t 28, .t 29, .r 30, .t 31, .t 32, .t 33] (by kernel_rfl) ?_
  first | refine SD.take rfl panicBody (op_load ty35 rfl (by repeat constructor) rfl) rfl rfl ?_ | refine SD.take rfl panicBody (op_loadX ty35 rfl (by assumption) rfl) rfl rfl ?_
  first | refine SD.take rfl panicBody (op_load ty35 rfl (by repeat constructor) rfl) rfl rfl ?_ | refine SD.take rfl panicBody (op_loadX ty35 rfl (by assumption) rfl) rfl rfl ?_
  first | refine SD.take rfl panicBody (op_load ty35 rfl (by repeat constructor) rfl) rfl rfl ?_ | refine SD.take rfl panicBody (op_loadX ty35 rfl (by assumption) rfl) rfl rfl ?_
  have hc1 := pair_spec (op := 8) hB hC
  try simp only at hc1
  refine SD.run rfl (op_callF en10 (vs := [_, _, _]) rfl (hc1)) rfl rfl ?_
  rintro _ _ X8 ⟨rfl, hX8, r8, rfl, h8⟩
  obtain ⟨o8, n8, a8, b8, l8, c8, m8, d8, rfl⟩ := h8.form
  have hc2 := pair_spec (op := 8) (hA.mono hX8) h8
  try simp only at hc2
  refine SD.run rfl (op_callF en10 (vs := [_, _, _]) rfl (hc2)) rfl rfl ?_
  rintro _ _ X9 ⟨rfl, hX9, r9, rfl, h9⟩
  obtain ⟨o9, n9, a9, b9, l9, c9, m9, d9, rfl⟩ := h9.form
  have hc3 := eprint_spec hI (of_decide_eq_true (by kernel_rfl)) (fun _ => num10 (.inl rfl)) h9
  try simp only at hc3
  refine SD.run rfl (op_callF en11 (vs := [_]) rfl (hc3)) rfl rfl ?_
  rintro _ _ X10 ⟨rfl, hX10, rfl⟩
  rw [if_pos chk1, tx1]
  refine SD.take rfl panicBody (op_eqlStrD rfl rfl) rfl rfl ?_
  rw [decide_eq_true rfl]
  have hX7A := (hX8.trans' hX9).trans' hX10
  refine SD.take rfl panicBody (op_move rfl) rfl rfl ?_
  first | refine SD.skip rfl panicBody rfl rfl ?_ | refine SD.take rfl panicBody (op_load ty35 rfl (by repeat constructor) rfl) rfl rfl ?_ | refine SD.take rfl panicBody (op_loadX ty35 rfl (by assumption) rfl) rfl rfl ?_
  first | refine SD.skip rfl panicBody rfl rfl ?_ | refine SD.take rfl panicBody (op_load ty35 rfl (by repeat constructor) rfl) rfl rfl ?_ | refine SD.take rfl panicBody (op_loadX ty35 rfl (by assumption) rfl) rfl rfl ?_
  first | refine SD.skip rfl panicBody rfl rfl ?_ | refine SD.take rfl panicBody (op_load ty35 rfl (by repeat constructor) rfl) rfl rfl ?_ | refine SD.take rfl panicBody (op_loadX ty35 rfl (by assumption) rfl) rfl rfl ?_
  have hc4 := pair_spec (op := 10) (hB.mono hX7A) (hC.mono hX7A)
  try simp only at hc4
  refine SD.run rfl (op_callF en10 (vs := [_, _, _]) rfl (hc4)) rfl rfl ?_
  rintro _ _ X11 ⟨rfl, hX11, r11, rfl, h11⟩
  obtain ⟨o11, n11, a11, b11, l11, c11, m11, d11, rfl⟩ := h11.form
  have hc5 := pair_spec (op := 10) ((hA.mono hX7A).mono hX11) h11
  try simp only at hc5
  refine SD.run rfl (op_callF en10 (vs := [_, _, _]) rfl (hc5)) rfl rfl ?_
  rintro _ _ X12 ⟨rfl, hX12, r12, rfl, h12⟩
  obtain ⟨o12, n12, a12, b12, l12, c12, m12, d12, rfl⟩ := h12.form
  have hc6 := eprint_spec hI (of_decide_eq_true (by kernel_rfl)) (fun _ => num10 (.inr (.inl rfl))) h12
  try simp only at hc6
  refine SD.run rfl (op_callF en11 (vs := [_]) rfl (hc6)) rfl rfl ?_
  rintro _ _ X13 ⟨rfl, hX13, rfl⟩
  rw [if_pos chk2, tx2]
  first | refine SD.skip rfl panicBody rfl rfl ?_ | refine SD.take rfl panicBody (op_eqlStrD rfl rfl) rfl rfl ?_
  rw [decide_eq_true rfl]
  have hX713 := ((hX7A.trans' hX11).trans' hX12).trans' hX13
  have hNot2 := (hNot.mono hX7).mono hX713
  first | refine SD.take rfl panicBody (op_pickT rfl rfl) rfl rfl ?_ | refine SD.take rfl panicBody (op_pickF rfl rfl) rfl rfl ?_ | refine SD.take rfl panicBody (op_pickB rfl rfl rfl) rfl rfl ?_
  refine SD.take rfl panicBody (op_move rfl) rfl rfl ?_
  first | refine SD.skip rfl panicBody rfl rfl ?_ | refine SD.take rfl panicBody (op_load ty35 rfl (by repeat constructor) rfl) rfl rfl ?_ | refine SD.take rfl panicBody (op_loadX ty35 rfl (by assumption) rfl) rfl rfl ?_
  have hc7 := eprint_spec hI (of_decide_eq_true (by kernel_rfl)) (fun _ => num10 (.inr (.inr (.inl rfl)))) hNot2
  try simp only at hc7
  refine SD.run rfl (op_callF en11 (vs := [_]) rfl (hc7)) rfl rfl ?_
  rintro _ _ X14 ⟨rfl, hX14, rfl⟩
  rw [if_pos chk3, tx3]
  first | refine SD.skip rfl panicBody rfl rfl ?_ | refine SD.take rfl panicBody (op_eqlStrD rfl rfl) rfl rfl ?_
  rw [decide_eq_true rfl]
  first | refine SD.take rfl panicBody (op_pickT rfl rfl) rfl rfl ?_ | refine SD.take rfl panicBody (op_pickF rfl rfl) rfl rfl ?_ | refine SD.take rfl panicBody (op_pickB rfl rfl rfl) rfl rfl ?_
  refine SD.take rfl panicBody (op_move rfl) rfl rfl ?_
  first | refine SD.skip rfl panicBody rfl rfl ?_ | refine SD.take rfl panicBody (op_load ty35 rfl (by repeat constructor) rfl) rfl rfl ?_ | refine SD.take rfl panicBody (op_loadX ty35 rfl (by assumption) rfl) rfl rfl ?_
  first | refine SD.skip rfl panicBody rfl rfl ?_ | refine SD.take rfl panicBody (op_build st41 (qs := [(0, _), (1, _), (2, _), (3, _)]) rfl rfl) rfl rfl ?_
  refine SD.run rfl (op_buildSlice Tryz.underlying27 bs41 (qs := [(0, _)]) rfl rfl rfl rfl rfl) rfl rfl ?_
  rintro _ _ _ ⟨B42, rfl, rfl, rfl⟩
  refine SD.pub B42 (by repeat constructor) ?_
  intro X15 hX15 hB42 _
  have hCs : ConsR X15 (.slice (some ⟨B42, 0, none⟩) 1 1) [cSod] := ⟨[(true, 1, ⟨#[115, 111, 100]⟩, .int .u8 (ol : Int), .int .i64 nl, .slice al ll cl, .slice bl ll2 cl2)], .inr ⟨by simp, B42, 1, [], rfl, hB42, by simp, by decide⟩, rfl, fun i x r h h' => by
    match i, h, h' with
    | 0, h, h' => cases h; cases h'; exact ⟨rfl, rfl, rfl, ((hL.mono hX713).mono hX14).mono hX15⟩⟩
  have hc8 := cprint_spec hI hCs (by simp) (by simp) (of_decide_eq_true (by kernel_rfl)) (fun c hc => by rw [List.mem_singleton.1 hc]; exact of_decide_eq_true (by kernel_rfl)) (fun c hc _ => by rw [List.mem_singleton.1 hc]; exact num10 (.inr (.inr (.inr rfl))))
  try simp only at hc8
  refine SD.run rfl (op_callF en6 (vs := [_]) rfl (hc8)) rfl rfl ?_
  rintro _ _ X16 ⟨rfl, hX16, rfl⟩
  rw [if_pos chk5, tx4]
  first | refine SD.skip rfl panicBody rfl rfl ?_ | refine SD.take rfl panicBody (op_eqlStrD rfl rfl) rfl rfl ?_
  rw [decide_eq_true rfl]
  first | refine SD.take rfl panicBody (op_pickT rfl rfl) rfl rfl ?_ | refine SD.take rfl panicBody (op_pickF rfl rfl) rfl rfl ?_ | refine SD.take rfl panicBody (op_pickB rfl rfl rfl) rfl rfl ?_
  refine SD.take rfl panicBody (op_move rfl) rfl rfl ?_
  first | refine SD.skip rfl panicBody rfl rfl ?_ | refine SD.take rfl panicBody (op_load ty35 rfl (by repeat constructor) rfl) rfl rfl ?_ | refine SD.take rfl panicBody (op_loadX ty35 rfl (by assumption) rfl) rfl rfl ?_
  have hc9 := depth_spec _ (Nat.le_refl _) (of_decide_eq_true (by kernel_rfl)) (((hNot2.mono hX14).mono hX15).mono hX16)
  try simp only at hc9
  refine SD.run rfl (op_callF en12 (vs := [_]) rfl (hc9)) rfl rfl ?_
  rintro _ _ X17 ⟨rfl, hX17, rfl⟩
  rw [show depE eNot = 3 by kernel_rfl]
  first | refine SD.skip rfl panicBody rfl rfl ?_ | refine SD.take rfl panicBody (op_eqlT rfl rfl (by omega)) rfl rfl ?_ | refine SD.take rfl panicBody (op_eqlF rfl rfl (by omega)) rfl rfl ?_ | refine SD.take rfl panicBody (op_eql rfl rfl) rfl rfl ?_
  first | refine SD.take rfl panicBody (op_pickT rfl rfl) rfl rfl ?_ | refine SD.take rfl panicBody (op_pickF rfl rfl) rfl rfl ?_ | refine SD.take rfl panicBody (op_pickB rfl rfl rfl) rfl rfl ?_
  refine SD.take rfl panicBody (op_assign rfl) rfl rfl ?_
  refine SD.nil ?_
  show SL _ _ _ _ _ _ _ [] _ _ _
  refine SL.nil ?_
  refine T.ret1 rfl (ResIs.tmp rfl) ?_
  rfl
end Go.Proofs.YtaooojjhlngcmaaGreatDoor
namespace Go.Proofs.YtaooojjhlngcmaaGreatDoor
section
set_option maxRecDepth 100000
theorem fa53_0 : FAdr Tryz.prog 53 0 0 := fadr_mk Tryz.underlying53 rfl rfl (by kernel_rfl)
theorem fa53_1 : FAdr Tryz.prog 53 1 1 := fadr_mk Tryz.underlying53 rfl rfl (by kernel_rfl)
theorem fa53_2 : FAdr Tryz.prog 53 2 2 := fadr_mk Tryz.underlying53 rfl rfl (by kernel_rfl)
theorem fa53_3 : FAdr Tryz.prog 53 3 3 := fadr_mk Tryz.underlying53 rfl rfl (by kernel_rfl)
theorem sl27 : SlT Tryz.prog 27 41 7 88 := ⟨Tryz.underlying27, sl_of (by kernel_rfl) (by decide)⟩
theorem ty53 : Ty Tryz.prog 53 true 7 := ⟨⟨_, Tryz.underlying53, rfl⟩, by kernel_rfl⟩
end
open Go.RowKit
theorem set16_spec {X : PMap} {v : Value} {cs : List Con} (h : ConsRi X v cs) (hl : cs.length < 1000) (hok : ∀ c ∈ cs, c.kind < 256 ∧ opsE c.ex ∧ wtE c.ex < 900000) : Spec Tryz.prog 7 [v] X fun u X' => ConsR X' u cs := by
  obtain ⟨rows, hr, hrl, hrow⟩ := h
  obtain ⟨A, cp, rfl⟩ := hr.form
  have hmx : maxLen = 9223372036854775807 := rfl
  refine Spec.enter Tryz.func7 rfl Tryz.ntmps7 rfl ?_
  intro w0 hw0
  refine T.seq ?_
  refine T.region ?_
  refine SL.y (op_assign rfl) rfl rfl ?_
  refine SL.nil ?_
  refine T.seq ?_
  refine T.region ?_
  refine SL.y (op_assign rfl) rfl rfl ?_
  refine SL.nil ?_
  refine T.seq ?_
  refine T.seq ?_
  refine T.region ?_
  refine SL.y (op_move rfl) rfl rfl ?_
  refine SL.y (op_lenS Tryz.underlying24 rfl) rfl rfl ?_
  refine SL.y (op_move (v := .int .i64 ((0 : Nat) : Int)) rfl) rfl rfl ?_
  refine SL.nil ?_
  refine T.block ?_
  refine T.loopW (fun m env own X' => ∃ (i : Nat) (vo : Value) (rs : List Row7), m = rows.length - i ∧ i ≤ rows.length ∧ X.le X' ∧ rs.length = (cs.take i).length ∧ GrowS 41 7 vo rs.length ((rs.map rc7).flatten) own ∧ (∀ (q : Nat) (c : Con) (r : Row7), (cs.take i)[q]? = some c → rs[q]? = some r → ConR X' c r) ∧ env = [(3, vo), (6, .slice A rows.length cp), (7, .int .i64 (rows.length : Int)), (8, .int .i64 (i : Int))]) rows.length ⟨0, _, [], by simp, by omega, PMap.le_refl _, rfl, GrowS.nil, (fun q c r h => by simp at h), rfl⟩ (by repeat (first | exact Sub.nil | refine Sub.cons rfl ?_)) ?_
  rintro m _ G X1 ⟨i, vo, rs, rfl, hi, hX1, hrsl, hG, hrs, rfl⟩
  have hrl2 : rs.length = i := by rw [hrsl, List.length_take]; omega
  obtain ⟨Av, cv, rfl⟩ := hG.form
  rcases Nat.lt_or_ge i rows.length with hil | hil
  · obtain ⟨r2, hr2⟩ : ∃ r2, rows[i]? = some r2 := ⟨_, List.getElem?_eq_getElem hil⟩
    obtain ⟨c, hc2⟩ : ∃ c, cs[i]? = some c := ⟨_, List.getElem?_eq_getElem (by omega)⟩
    have hrc := hrow i c r2 hc2 hr2
    obtain ⟨okk, oko, okw⟩ := hok c (List.mem_of_getElem? hc2)
    obtain ⟨o0, n0, a0, b0, l0, c0, m0, d0, rfl⟩ := hrc.form
    have hex := hrc.2.2.2
    simp only at hex
    obtain ⟨bA, pre, rfl, hbA⟩ := hr.blk (by omega)
    have htk := take_snoc hc2
    refine T.seq ?_
    refine T.region ?_
    first | refine SL.y (op_lssT rfl rfl (by omega)) rfl rfl ?_ | refine SL.y (op_lssF rfl rfl (by omega)) rfl rfl ?_ | refine SL.y (op_lss rfl rfl) rfl rfl ?_
    refine SL.nil ?_
    refine T.seq ?_
    refine T.condT rfl ?_
    refine T.skip ?_
    refine T.seq ?_
    refine T.block ?_
    refine T.seq ?_
    refine T.region ?_
    first | refine SL.y (op_indexN Tryz.underlying24 ty53 rfl rfl (by omega)) rfl rfl ?_ | refine SL.y (op_index Tryz.underlying24 ty53 rfl rfl (by omega) (by omega)) rfl rfl ?_
    refine SL.y (op_loadX (v := .agg #[.bool c.enf, .int .i64 (c.kind : Int), .string c.name, .int .i64 (o0 : Int), .int .i64 n0, .slice a0 l0 c0, .slice b0 m0 d0]) ty53 rfl (hbA.mono hX1) (row_read rc7i_len hr2 (by omega))) rfl rfl ?_
    refine SL.x (op_alloc z53) rfl rfl ?_
    rintro _ _ _ ⟨B5, rfl, rfl, rfl⟩
    refine SL.x (op_store ty53 rfl rfl (by repeat constructor) rfl rfl rfl) rfl rfl ?_
    rintro _ _ _ ⟨rfl, rfl⟩
    refine SL.nil ?_
    refine T.drawG (own0 := [_]) (by kernel_rfl) 13 [.t 0, .t 1, .t 2, .t 3, .t 4, .t 5, .t 6, .t 7, .t 8, .t 9, .r 10, .t 11, .r 12] (by kernel_rfl) ?_
    refine SD.take rfl panicBody (op_move rfl) rfl rfl ?_
    refine SD.take rfl panicBody (op_fieldAddr fa53_0 rfl) rfl rfl ?_
    first | refine SD.take rfl panicBody (op_load ty4 rfl (by repeat constructor) rfl) rfl rfl ?_ | refine SD.take rfl panicBody (op_loadX ty4 rfl (by assumption) rfl) rfl rfl ?_
    refine SD.take rfl panicBody (op_fieldAddr fa53_1 rfl) rfl rfl ?_
    first | refine SD.take rfl panicBody (op_load ty3 rfl (by repeat constructor) rfl) rfl rfl ?_ | refine SD.take rfl panicBody (op_loadX ty3 rfl (by assumption) rfl) rfl rfl ?_
    first | refine SD.take rfl panicBody (op_convU8 Tryz.underlying3 Tryz.underlying39 rfl (by omega) (by omega)) rfl rfl ?_ | refine SD.take rfl panicBody (op_convert Tryz.underlying3 Tryz.underlying39 rfl) rfl rfl ?_
    refine SD.take rfl panicBody (op_fieldAddr fa53_2 rfl) rfl rfl ?_
    first | refine SD.take rfl panicBody (op_load ty9 rfl (by repeat constructor) rfl) rfl rfl ?_ | refine SD.take rfl panicBody (op_loadX ty9 rfl (by assumption) rfl) rfl rfl ?_
    refine SD.take rfl panicBody (op_fieldAddr fa53_3 rfl) rfl rfl ?_
    first | refine SD.take rfl panicBody (op_load ty50 rfl (by repeat constructor) rfl) rfl rfl ?_ | refine SD.take rfl panicBody (op_loadX ty50 rfl (by assumption) rfl) rfl rfl ?_
    have hc := expr_spec 900000 (by omega) (by omega) oko (hex.mono hX1)
    try simp only at hc
    refine SD.run rfl (op_callF en18 (vs := [_]) rfl (hc)) rfl rfl ?_
    rintro _ _ X2 ⟨rfl, hX2, r8, rfl, hr8⟩
    obtain ⟨o8, n8, a8, b8, l8, c8, l9, c9, rfl⟩ := hr8.form
    refine SD.take rfl panicBody (op_build st41 (qs := [(0, _), (1, _), (2, _), (3, _)]) rfl rfl) rfl rfl ?_
    refine SD.run rfl (op_buildSlice Tryz.underlying27 bs41 (qs := [(0, _)]) rfl rfl rfl rfl rfl) rfl rfl ?_
    rintro _ _ _ ⟨B24, rfl, rfl, rfl⟩
    refine SD.nil ?_
    show SL _ _ _ _ _ _ _ [_, _] _ _ _
    refine SL.x (op_appendGA (own0 := [_, _]) (m := 1) sl27 rfl hG rfl (Src.ofOwn0 AtO.here rfl) (by intro y hy; have hy : y ∈ [Value.bool _, Value.int _ _, Value.string _, Value.int _ _, Value.int _ _, Value.slice _ _ _, Value.slice _ _ _] := hy; simp only [List.mem_cons, List.not_mem_nil, or_false] at hy; rcases hy with rfl | rfl | rfl | rfl | rfl | rfl | rfl <;> rfl) (by omega) (by omega)) rfl rfl ?_
    rintro va9 _ _ ⟨Ga9, rfl, rfl, hGa9⟩
    refine SL.y (op_assign rfl) rfl rfl ?_
    refine SL.nil ?_
    refine T.blk ?_
    refine T.region ?_
    first | refine SL.y (op_addN (q := 1) rfl rfl (by omega)) rfl rfl ?_ | refine SL.y (op_add rfl rfl (by omega) (by omega)) rfl rfl ?_ | refine SL.y (op_addW rfl rfl) rfl rfl ?_
    refine SL.y (op_move rfl) rfl rfl ?_
    refine SL.nil ?_
    refine T.less (own' := Ga9) (List.Sublist.cons _ (List.sublist_cons_self _ _)) ?_
    have hnew : ConR X2 c (c.enf, c.kind, c.name, .int .u8 (o8 : Int), .int .i64 n8, .slice a8 l8 c8, .slice b8 l9 c9) := ⟨rfl, rfl, rfl, hr8⟩
    have hG10 : GrowS 41 7 va9 (rs ++ [((c.enf, c.kind, c.name, .int .u8 (o8 : Int), .int .i64 n8, .slice a8 l8 c8, .slice b8 l9 c9) : Row7)]).length (((rs ++ [((c.enf, c.kind, c.name, .int .u8 (o8 : Int), .int .i64 n8, .slice a8 l8 c8, .slice b8 l9 c9) : Row7)]).map rc7).flatten) Ga9 := by
      rw [List.length_append, List.map_append, List.flatten_append]
      exact hGa9
    exact T.backW (rows.length - (i + 1)) (by omega) ⟨i + 1, _, _, rfl, by omega, hX1.trans' hX2, by rw [htk, List.length_append, List.length_append, hrsl]; rfl, hG10, by rw [htk]; exact rows_snoc hrsl (fun q c r h1 h2 => (hrs q c r h1 h2).mono hX2) hnew, rfl⟩ (by repeat (first | exact Sub.nil | refine Sub.cons rfl ?_))
  · obtain rfl : i = rows.length := by omega
    rw [show cs.take rows.length = cs from List.take_of_length_le (by omega)] at hrsl hrs
    refine T.seq ?_
    refine T.region ?_
    first | refine SL.y (op_lssT rfl rfl (by omega)) rfl rfl ?_ | refine SL.y (op_lssF rfl rfl (by omega)) rfl rfl ?_ | refine SL.y (op_lss rfl rfl) rfl rfl ?_
    refine SL.nil ?_
    refine T.seq ?_
    refine T.condF rfl ?_
    refine T.exit (T.exitCode (T.exitCut (T.exitBlk ?_)))
    refine T.seq ?_
    refine T.region ?_
    refine SL.y (op_move rfl) rfl rfl ?_
    refine SL.y (op_assign rfl) rfl rfl ?_
    refine SL.nil ?_
    refine T.pubG (own0 := []) hG ?_
    intro X9 hX9 hS9
    refine T.ret1 rfl (ResIs.tmp rfl) ?_
    exact ⟨rs, RowR.ofG hG hS9, hrsl, fun q c r h1 h2 => (hrs q c r h1 h2).mono hX9⟩
theorem rline_spec {X : PMap} {c : Con} {r : Row7} (h : ConRi X c r) (h1 : 1 ≤ c.kind) (h3 : c.kind ≤ 3) (hv : c.name.size ≤ 12) (hw : wtE c.ex < 900000) (hn : nodeE c.ex = 0) : Spec Tryz.prog 20 [.agg (rc7i r).toArray] X fun u _ => u = .string (lineB c) := by
  obtain ⟨o0, n0, a0, b0, l0, c0, m0, d0, rfl⟩ := h.form
  have hex := h.2.2.2
  simp only at hex
  have hk := strsC_at (kind_at h1 h3)
  have hts := text_size c.ex
  have hks := kindB_size c.kind
  have hms := modeB_size c
  have k1 : (⟨#[58, 32]⟩ : ByteArray).size = 2 := rfl
  have k2 : (⟨#[59, 10]⟩ : ByteArray).size = 2 := rfl
  have k3 : (⟨#[101, 110, 102, 111, 114, 99, 101, 32]⟩ : ByteArray).size = 8 := rfl
  have k4 : (⟨#[100, 101, 99, 108, 97, 114, 101, 32]⟩ : ByteArray).size = 8 := rfl
  have e0 : (rc7i (c.enf, c.kind, c.name, .int .i64 (o0 : Int), .int .i64 n0, .slice a0 l0 c0, .slice b0 m0 d0)).toArray = #[.bool c.enf, .int .i64 (c.kind : Int), .string c.name, .int .i64 (o0 : Int), .int .i64 n0, .slice a0 l0 c0, .slice b0 m0 d0] := rfl
  rw [e0]
  have key : modeB c = (if c.enf then ⟨#[101, 110, 102, 111, 114, 99, 101, 32]⟩ else ⟨#[100, 101, 99, 108, 97, 114, 101, 32]⟩) := rfl
  have hcall := fun {X' : PMap} (hX : X.le X') => rtext_spec 900000 (by omega) (by omega) hn (hex.mono hX)
  try simp only at hcall
  cases hce : c.enf with
  | true =>
    rw [hce, if_pos rfl] at key
    refine Spec.enter Tryz.func20 rfl Tryz.ntmps20 rfl ?_
    intro w0 hw0
    refine T.seq ?_
    refine T.region ?_
    refine SL.x (op_box rfl) rfl rfl ?_
    rintro _ _ _ ⟨B1, rfl, rfl, rfl⟩
    refine SL.y (op_assign rfl) rfl rfl ?_
    refine SL.nil ?_
    refine T.seq ?_
    refine T.region ?_
    refine SL.y (op_assign rfl) rfl rfl ?_
    refine SL.nil ?_
    refine T.seq ?_
    refine T.seq ?_
    refine T.region ?_
    refine SL.y (op_fieldAddr fa53_0 rfl) rfl rfl ?_
    first | refine SL.y (op_load ty4 rfl (by repeat constructor) rfl) rfl rfl ?_ | refine SL.y (op_loadX ty4 rfl (by assumption) rfl) rfl rfl ?_
    refine SL.nil ?_
    refine T.condT rfl ?_
    refine T.region ?_
    refine SL.y (op_assign rfl) rfl rfl ?_
    refine SL.nil ?_
    refine T.seq ?_
    refine T.drawG (own0 := [_]) (by kernel_rfl) 18 [.t 0, .t 2, .t 3, .t 4, .t 8, .t 9, .t 12, .t 13, .b 1 14 [(0, 5), (0, 6), (0, 7), (0, 10), (0, 11), (2, 14), (0, 15), (0, 16), (0, 17)] [(2, 1), (0, 5), (0, 6), (0, 7), (0, 10), (0, 11), (0, 15), (0, 16), (0, 17)]] (by kernel_rfl) ?_
    refine SD.take rfl panicBody (op_move rfl) rfl rfl ?_
    refine SD.take rfl panicBody (op_fieldAddr fa53_1 rfl) rfl rfl ?_
    first | refine SD.take rfl panicBody (op_load ty3 rfl (by repeat constructor) rfl) rfl rfl ?_ | refine SD.take rfl panicBody (op_loadX ty3 rfl (by assumption) rfl) rfl rfl ?_
    first | refine SD.take rfl panicBody (op_subN (q := 1) rfl rfl (by omega) (by omega)) rfl rfl ?_ | refine SD.take rfl panicBody (op_sub rfl rfl (by omega) (by omega)) rfl rfl ?_ | refine SD.take rfl panicBody (op_subW rfl rfl) rfl rfl ?_
    refine SD.take rfl panicBody (op_fieldAddr fa53_2 rfl) rfl rfl ?_
    first | refine SD.take rfl panicBody (op_load ty9 rfl (by repeat constructor) rfl) rfl rfl ?_ | refine SD.take rfl panicBody (op_loadX ty9 rfl (by assumption) rfl) rfl rfl ?_
    refine SD.take rfl panicBody (op_fieldAddr fa53_3 rfl) rfl rfl ?_
    first | refine SD.take rfl panicBody (op_load ty50 rfl (by repeat constructor) rfl) rfl rfl ?_ | refine SD.take rfl panicBody (op_loadX ty50 rfl (by assumption) rfl) rfl rfl ?_
    refine SD.branch rfl rfl (op_buildSlice Tryz.underlying32 bs9 (qs := [(0, _), (1, _), (2, _)]) rfl rfl rfl rfl rfl) (op_callF en32 (vs := [_]) rfl (hcall (PMap.le_refl _))) rfl rfl rfl rfl ?_ ?_
    · rintro _ _ _ ⟨B7, rfl, rfl, rfl⟩
      change SD _ _ _ _ _ _ _ _ _ _ _ [.t 5, .t 6, .t 7, .t 10, .t 11, .r 14, .t 15, .t 16, .t 17] _ _ _
      refine SD.up (by intro p hp; first | exact hp | exact List.mem_cons_of_mem _ hp) (by first | exact PMap.le_refl _ | assumption) ?_
      first | refine SD.take rfl panicBody (op_indexN Tryz.underlying32 ty9 rfl rfl (by omega)) rfl rfl ?_ | refine SD.take rfl panicBody (op_index Tryz.underlying32 ty9 rfl rfl (by omega) (by omega)) rfl rfl ?_
      refine SD.take rfl panicBody (op_load ty9 rfl (by repeat constructor) (cread1k' hk (by omega))) rfl rfl ?_
      refine SD.take rfl panicBody (op_addStr rfl rfl (by first | omega | (simp only [ByteArray.size_append]; omega))) rfl rfl ?_
      refine SD.take rfl panicBody (op_addStr rfl rfl (by first | omega | (simp only [ByteArray.size_append]; omega))) rfl rfl ?_
      refine SD.take rfl panicBody (op_addStr rfl rfl (by first | omega | (simp only [ByteArray.size_append]; omega))) rfl rfl ?_
      refine SD.run rfl (op_callF en32 (vs := [_]) rfl (hcall (PMap.le_refl _))) rfl rfl ?_
      rintro _ _ X2 ⟨rfl, hX2, rfl⟩
      refine SD.take rfl panicBody (op_addStr rfl rfl (by first | omega | (simp only [ByteArray.size_append]; omega))) rfl rfl ?_
      refine SD.take rfl panicBody (op_addStr rfl rfl (by first | omega | (simp only [ByteArray.size_append]; omega))) rfl rfl ?_
      refine SD.take rfl panicBody (op_assign rfl) rfl rfl ?_
      refine SD.nil ?_
      show SL _ _ _ _ _ _ _ [] _ _ _
      refine SL.nil ?_
      refine T.ret1 rfl (ResIs.tmp rfl) ?_
      rw [lineB, key]
    · rintro _ _ X2 ⟨rfl, hX2, rfl⟩
      change SD _ _ _ _ _ _ _ _ _ _ _ [.r 1, .t 5, .t 6, .t 7, .t 10, .t 11, .t 15, .t 16, .t 17] _ _ _
      refine SD.up (by intro p hp; first | exact hp | exact List.mem_cons_of_mem _ hp) (by first | exact PMap.le_refl _ | assumption) ?_
      refine SD.run rfl (op_buildSlice Tryz.underlying32 bs9 (qs := [(0, _), (1, _), (2, _)]) rfl rfl rfl rfl rfl) rfl rfl ?_
      rintro _ _ _ ⟨B7, rfl, rfl, rfl⟩
      first | refine SD.take rfl panicBody (op_indexN Tryz.underlying32 ty9 rfl rfl (by omega)) rfl rfl ?_ | refine SD.take rfl panicBody (op_index Tryz.underlying32 ty9 rfl rfl (by omega) (by omega)) rfl rfl ?_
      refine SD.up (by intro p hp; first | exact hp | exact List.mem_cons_of_mem _ hp | exact List.mem_append_right _ hp) (by first | exact PMap.le_refl _ | assumption) ?_
      refine SD.take rfl panicBody (op_load ty9 rfl (by repeat constructor) (cread1k' hk (by omega))) rfl rfl ?_
      refine SD.take rfl panicBody (op_addStr rfl rfl (by first | omega | (simp only [ByteArray.size_append]; omega))) rfl rfl ?_
      refine SD.take rfl panicBody (op_addStr rfl rfl (by first | omega | (simp only [ByteArray.size_append]; omega))) rfl rfl ?_
      refine SD.take rfl panicBody (op_addStr rfl rfl (by first | omega | (simp only [ByteArray.size_append]; omega))) rfl rfl ?_
      refine SD.take rfl panicBody (op_addStr rfl rfl (by first | omega | (simp only [ByteArray.size_append]; omega))) rfl rfl ?_
      refine SD.take rfl panicBody (op_addStr rfl rfl (by first | omega | (simp only [ByteArray.size_append]; omega))) rfl rfl ?_
      refine SD.take rfl panicBody (op_assign rfl) rfl rfl ?_
      refine SD.nil ?_
      show SL _ _ _ _ _ _ _ [] _ _ _
      refine SL.nil ?_
      refine T.ret1 rfl (ResIs.tmp rfl) ?_
      rw [lineB, key]
  | false =>
    rw [hce, if_neg (by simp)] at key
    refine Spec.enter Tryz.func20 rfl Tryz.ntmps20 rfl ?_
    intro w0 hw0
    refine T.seq ?_
    refine T.region ?_
    refine SL.x (op_box rfl) rfl rfl ?_
    rintro _ _ _ ⟨B1, rfl, rfl, rfl⟩
    refine SL.y (op_assign rfl) rfl rfl ?_
    refine SL.nil ?_
    refine T.seq ?_
    refine T.region ?_
    refine SL.y (op_assign rfl) rfl rfl ?_
    refine SL.nil ?_
    refine T.seq ?_
    refine T.seq ?_
    refine T.region ?_
    refine SL.y (op_fieldAddr fa53_0 rfl) rfl rfl ?_
    first | refine SL.y (op_load ty4 rfl (by repeat constructor) rfl) rfl rfl ?_ | refine SL.y (op_loadX ty4 rfl (by assumption) rfl) rfl rfl ?_
    refine SL.nil ?_
    refine T.condF rfl ?_
    refine T.skip ?_
    refine T.seq ?_
    refine T.drawG (own0 := [_]) (by kernel_rfl) 18 [.t 0, .t 2, .t 3, .t 4, .t 8, .t 9, .t 12, .t 13, .b 1 14 [(0, 5), (0, 6), (0, 7), (0, 10), (0, 11), (2, 14), (0, 15), (0, 16), (0, 17)] [(2, 1), (0, 5), (0, 6), (0, 7), (0, 10), (0, 11), (0, 15), (0, 16), (0, 17)]] (by kernel_rfl) ?_
    refine SD.take rfl panicBody (op_move rfl) rfl rfl ?_
    refine SD.take rfl panicBody (op_fieldAddr fa53_1 rfl) rfl rfl ?_
    first | refine SD.take rfl panicBody (op_load ty3 rfl (by repeat constructor) rfl) rfl rfl ?_ | refine SD.take rfl panicBody (op_loadX ty3 rfl (by assumption) rfl) rfl rfl ?_
    first | refine SD.take rfl panicBody (op_subN (q := 1) rfl rfl (by omega) (by omega)) rfl rfl ?_ | refine SD.take rfl panicBody (op_sub rfl rfl (by omega) (by omega)) rfl rfl ?_ | refine SD.take rfl panicBody (op_subW rfl rfl) rfl rfl ?_
    refine SD.take rfl panicBody (op_fieldAddr fa53_2 rfl) rfl rfl ?_
    first | refine SD.take rfl panicBody (op_load ty9 rfl (by repeat constructor) rfl) rfl rfl ?_ | refine SD.take rfl panicBody (op_loadX ty9 rfl (by assumption) rfl) rfl rfl ?_
    refine SD.take rfl panicBody (op_fieldAddr fa53_3 rfl) rfl rfl ?_
    first | refine SD.take rfl panicBody (op_load ty50 rfl (by repeat constructor) rfl) rfl rfl ?_ | refine SD.take rfl panicBody (op_loadX ty50 rfl (by assumption) rfl) rfl rfl ?_
    refine SD.branch rfl rfl (op_buildSlice Tryz.underlying32 bs9 (qs := [(0, _), (1, _), (2, _)]) rfl rfl rfl rfl rfl) (op_callF en32 (vs := [_]) rfl (hcall (PMap.le_refl _))) rfl rfl rfl rfl ?_ ?_
    · rintro _ _ _ ⟨B7, rfl, rfl, rfl⟩
      change SD _ _ _ _ _ _ _ _ _ _ _ [.t 5, .t 6, .t 7, .t 10, .t 11, .r 14, .t 15, .t 16, .t 17] _ _ _
      refine SD.up (by intro p hp; first | exact hp | exact List.mem_cons_of_mem _ hp) (by first | exact PMap.le_refl _ | assumption) ?_
      first | refine SD.take rfl panicBody (op_indexN Tryz.underlying32 ty9 rfl rfl (by omega)) rfl rfl ?_ | refine SD.take rfl panicBody (op_index Tryz.underlying32 ty9 rfl rfl (by omega) (by omega)) rfl rfl ?_
      refine SD.take rfl panicBody (op_load ty9 rfl (by repeat constructor) (cread1k' hk (by omega))) rfl rfl ?_
      refine SD.take rfl panicBody (op_addStr rfl rfl (by first | omega | (simp only [ByteArray.size_append]; omega))) rfl rfl ?_
      refine SD.take rfl panicBody (op_addStr rfl rfl (by first | omega | (simp only [ByteArray.size_append]; omega))) rfl rfl ?_
      refine SD.take rfl panicBody (op_addStr rfl rfl (by first | omega | (simp only [ByteArray.size_append]; omega))) rfl rfl ?_
      refine SD.run rfl (op_callF en32 (vs := [_]) rfl (hcall (PMap.le_refl _))) rfl rfl ?_
      rintro _ _ X2 ⟨rfl, hX2, rfl⟩
      refine SD.take rfl panicBody (op_addStr rfl rfl (by first | omega | (simp only [ByteArray.size_append]; omega))) rfl rfl ?_
      refine SD.take rfl panicBody (op_addStr rfl rfl (by first | omega | (simp only [ByteArray.size_append]; omega))) rfl rfl ?_
      refine SD.take rfl panicBody (op_assign rfl) rfl rfl ?_
      refine SD.nil ?_
      show SL _ _ _ _ _ _ _ [] _ _ _
      refine SL.nil ?_
      refine T.ret1 rfl (ResIs.tmp rfl) ?_
      rw [lineB, key]
    · rintro _ _ X2 ⟨rfl, hX2, rfl⟩
      change SD _ _ _ _ _ _ _ _ _ _ _ [.r 1, .t 5, .t 6, .t 7, .t 10, .t 11, .t 15, .t 16, .t 17] _ _ _
      refine SD.up (by intro p hp; first | exact hp | exact List.mem_cons_of_mem _ hp) (by first | exact PMap.le_refl _ | assumption) ?_
      refine SD.run rfl (op_buildSlice Tryz.underlying32 bs9 (qs := [(0, _), (1, _), (2, _)]) rfl rfl rfl rfl rfl) rfl rfl ?_
      rintro _ _ _ ⟨B7, rfl, rfl, rfl⟩
      first | refine SD.take rfl panicBody (op_indexN Tryz.underlying32 ty9 rfl rfl (by omega)) rfl rfl ?_ | refine SD.take rfl panicBody (op_index Tryz.underlying32 ty9 rfl rfl (by omega) (by omega)) rfl rfl ?_
      refine SD.up (by intro p hp; first | exact hp | exact List.mem_cons_of_mem _ hp | exact List.mem_append_right _ hp) (by first | exact PMap.le_refl _ | assumption) ?_
      refine SD.take rfl panicBody (op_load ty9 rfl (by repeat constructor) (cread1k' hk (by omega))) rfl rfl ?_
      refine SD.take rfl panicBody (op_addStr rfl rfl (by first | omega | (simp only [ByteArray.size_append]; omega))) rfl rfl ?_
      refine SD.take rfl panicBody (op_addStr rfl rfl (by first | omega | (simp only [ByteArray.size_append]; omega))) rfl rfl ?_
      refine SD.take rfl panicBody (op_addStr rfl rfl (by first | omega | (simp only [ByteArray.size_append]; omega))) rfl rfl ?_
      refine SD.take rfl panicBody (op_addStr rfl rfl (by first | omega | (simp only [ByteArray.size_append]; omega))) rfl rfl ?_
      refine SD.take rfl panicBody (op_addStr rfl rfl (by first | omega | (simp only [ByteArray.size_append]; omega))) rfl rfl ?_
      refine SD.take rfl panicBody (op_assign rfl) rfl rfl ?_
      refine SD.nil ?_
      show SL _ _ _ _ _ _ _ [] _ _ _
      refine SL.nil ?_
      refine T.ret1 rfl (ResIs.tmp rfl) ?_
      rw [lineB, key]
end Go.Proofs.YtaooojjhlngcmaaGreatDoor
namespace Go.Proofs.YtaooojjhlngcmaaGreatDoor
open Go.Shelf
def lays171_ren : Go.Shelf.Ren := ⟨fun | 171 => 36 | 243 => 61 | 246 => 70 | 283 => 74 | 284 => 75 | 285 => 76 | 286 => 77 | 129 => 89 | 317 => 90 | 318 => 91 | 319 => 92 | 320 => 93 | 337 => 100 | 338 => 101 | n => n, fun | 3 => 3 | 9 => 9 | 2 => 2 | 4 => 4 | 171 => 108 | 0 => 0 | 53 => 109 | 37 => 60 | 5 => 5 | 173 => 112 | 212 => 127 | 51 => 125 | 20 => 20 | 213 => 128 | 46 => 107 | 232 => 139 | 233 => 140 | n => n, fun | 17 => 0 | 18 => 2 | 19 => 3 | n => n⟩
theorem lays171 : Go.Proofs.LaysM.n171 Tryz.prog lays171_ren := {
  mixed := by kernel_rfl
  f129 := Tryz.func89.trans (congrArg some (by kernel_rfl))
  f171 := Tryz.func36.trans (congrArg some (by kernel_rfl))
  f243 := Tryz.func61.trans (congrArg some (by kernel_rfl))
  f246 := Tryz.func70.trans (congrArg some (by kernel_rfl))
  f283 := Tryz.func74.trans (congrArg some (by kernel_rfl))
  f284 := Tryz.func75.trans (congrArg some (by kernel_rfl))
  f285 := Tryz.func76.trans (congrArg some (by kernel_rfl))
  f286 := Tryz.func77.trans (congrArg some (by kernel_rfl))
  f317 := Tryz.func90.trans (congrArg some (by kernel_rfl))
  f318 := Tryz.func91.trans (congrArg some (by kernel_rfl))
  f319 := Tryz.func92.trans (congrArg some (by kernel_rfl))
  f320 := Tryz.func93.trans (congrArg some (by kernel_rfl))
  f337 := Tryz.func100.trans (congrArg some (by kernel_rfl))
  f338 := Tryz.func101.trans (congrArg some (by kernel_rfl))
  t0 := Tryz.underlying0
  a0 := Tryz.isAgg0
  z0 := Tryz.sizeOf0
  v0 := Tryz.zeroValue0
  t2 := Tryz.underlying2
  a2 := Tryz.isAgg2
  z2 := Tryz.sizeOf2
  v2 := Tryz.zeroValue2
  t3 := Tryz.underlying3
  a3 := Tryz.isAgg3
  z3 := Tryz.sizeOf3
  v3 := Tryz.zeroValue3
  t4 := Tryz.underlying4
  a4 := Tryz.isAgg4
  z4 := Tryz.sizeOf4
  v4 := Tryz.zeroValue4
  t5 := Tryz.underlying5
  a5 := Tryz.isAgg5
  z5 := Tryz.sizeOf5
  v5 := Tryz.zeroValue5
  t9 := Tryz.underlying9
  a9 := Tryz.isAgg9
  z9 := Tryz.sizeOf9
  v9 := Tryz.zeroValue9
  t20 := Tryz.underlying20
  a20 := Tryz.isAgg20
  z20 := Tryz.sizeOf20
  v20 := Tryz.zeroValue20
  t37 := Tryz.underlying60
  a37 := Tryz.isAgg60
  z37 := Tryz.sizeOf60
  v37 := Tryz.zeroValue60
  t46 := Tryz.underlying107
  a46 := Tryz.isAgg107
  z46 := Tryz.sizeOf107
  v46 := Tryz.zeroValue107
  t51 := Tryz.underlying125
  a51 := Tryz.isAgg125
  z51 := Tryz.sizeOf125
  v51 := Tryz.zeroValue125
  t53 := Tryz.underlying109
  a53 := Tryz.isAgg109
  z53 := Tryz.sizeOf109
  v53 := Tryz.zeroValue109
  t171 := Tryz.underlying108
  a171 := Tryz.isAgg108
  z171 := Tryz.sizeOf108
  v171 := Tryz.zeroValue108
  t173 := Tryz.underlying112
  a173 := Tryz.isAgg112
  z173 := Tryz.sizeOf112
  v173 := Tryz.zeroValue112
  t212 := Tryz.underlying127
  a212 := Tryz.isAgg127
  z212 := Tryz.sizeOf127
  v212 := Tryz.zeroValue127
  t213 := Tryz.underlying128
  a213 := Tryz.isAgg128
  z213 := Tryz.sizeOf128
  t232 := Tryz.underlying139
  a232 := Tryz.isAgg139
  z232 := Tryz.sizeOf139
  v232 := Tryz.zeroValue139
  t233 := Tryz.underlying140
  a233 := Tryz.isAgg140
  z233 := Tryz.sizeOf140
  v233 := Tryz.zeroValue140
  g17 := by kernel_rfl
  g18 := by kernel_rfl
  g19 := by kernel_rfl
  i0 := by kernel_rfl
  i2 := by kernel_rfl
  i3 := by kernel_rfl
  i4 := by kernel_rfl
  i5 := by kernel_rfl
  i9 := by kernel_rfl
  i20 := by kernel_rfl
  i37 := by kernel_rfl
  i46 := by kernel_rfl
  i51 := by kernel_rfl
  i53 := by kernel_rfl
  i171 := by kernel_rfl
  i173 := by kernel_rfl
  i212 := by kernel_rfl
  i232 := by kernel_rfl
  i233 := by kernel_rfl
  m17 := by kernel_rfl
  m18 := by kernel_rfl
  m19 := by kernel_rfl }
end Go.Proofs.YtaooojjhlngcmaaGreatDoor
namespace Go.Proofs.YtaooojjhlngcmaaGreatDoor
open Go.RowKit
/-- The table of powers of ten lies as its initialiser lays it. -/
def Pow10 (X : PMap) : Prop := ∀ w, PIn X w → Lib.TabIs Tryz.prog w "internal/strconv.uint64pow10" .u64 Lib.pow10Tab
theorem Pow10.mono {X X' : PMap} (h : Pow10 X) (hX : X.le X') : Pow10 X' := fun w hw => h w fun k o hk => hw k o (hX k o hk)
theorem decG_lib : ∀ (f v : Nat), v < 10 ^ f → 0 < f → decG f v = Lib.decDigits v
  | 0, _, _, h => by omega
  | f + 1, v, h, _ => by
    rw [decG, Lib.decDigits]
    by_cases hv : v < 10
    · rw [if_pos hv, dif_pos hv]
    · rw [if_neg hv, dif_neg hv]
      have h1 : v / 10 < 10 ^ f := by rw [Nat.pow_succ] at h; omega
      rw [decG_lib f (v / 10) h1 (Nat.pos_of_ne_zero fun e => by subst e; simp at h1; omega)]
theorem itoaL_spec {X : PMap} (hP : Pow10 X) (v : Nat) (hv : v ≤ 9223372036854775807) : Spec Tryz.prog 36 [.int .i64 (v : Int)] X fun u _ => u = .string (decB v) := fun w hw => by
  have h := Any.strconv_Itoa lays171 (v : Int) (by omega) (by omega) w (hP w hw)
  refine h.mono ?_
  rintro e w' ⟨rfl, k, os, rfl⟩
  have e1 : (⟨(Lib.itoa (v : Int)).toArray⟩ : ByteArray) = decB v := by
    rw [Lib.itoa, if_neg (by omega), Int.toNat_natCast, decB, decG_lib 20 v (by omega) (by omega)]
  have hlt : ∀ k' : Nat, k' < w.heap.size → (Sort.grow (w.drewN k) os).heap[k']? = w.heap[k']? := fun k' hk => by
    show (w.heap ++ os)[k']? = _
    rw [Array.getElem?_append_left hk]
  refine ⟨_, X, rfl, ⟨rfl, rfl, rfl, ?_, hlt⟩, fun k' o hk => ?_, fun _ _ => rfl, by rw [e1]⟩
  · show w.heap.size ≤ (w.heap ++ os).size
    simp
  · rw [hlt k' (hw.lt hk)]; exact hw k' o hk
end Go.Proofs.YtaooojjhlngcmaaGreatDoor
namespace Go.Proofs.YtaooojjhlngcmaaGreatDoor
open Go.RowKit
end Go.Proofs.YtaooojjhlngcmaaGreatDoor
namespace Go.Proofs.YtaooojjhlngcmaaGreatDoor
open Go.RowKit
/-- Ascending, each one once. -/
def StrS (l : List ByteArray) : Prop := l.Pairwise fun a b => ltS a b = true
theorem StrS.nodup {l : List ByteArray} (h : StrS l) : l.Nodup := h.imp fun {a b} hab e => by subst e; rw [lt_irr] at hab; cases hab
theorem StrS.same : ∀ {l m : List ByteArray}, StrS l → StrS m → (∀ x, x ∈ l ↔ x ∈ m) → l = m
  | [], [], _, _, _ => rfl
  | [], b :: m, _, _, h => by have := (h b).2 (by simp); cases this
  | a :: l, [], _, _, h => by have := (h a).1 (by simp); cases this
  | a :: l, b :: m, h1, h2, h => by
    obtain ⟨g1, g2⟩ := List.pairwise_cons.1 h1
    obtain ⟨k1, k2⟩ := List.pairwise_cons.1 h2
    have hab : a = b := by
      rcases List.mem_cons.1 ((h a).1 (by simp)) with e | hm
      · exact e
      · rcases List.mem_cons.1 ((h b).2 (by simp)) with e | hl
        · exact e.symm
        · have := lt_asym (k1 a hm)
          rw [g1 b hl] at this; cases this
    subst hab
    rw [StrS.same g2 k2 fun x => ?_]
    have hx := h x
    constructor
    · intro hxl
      rcases List.mem_cons.1 (hx.1 (by simp [hxl])) with e | hm
      · subst e; have := g1 x hxl; rw [lt_irr] at this; cases this
      · exact hm
    · intro hxm
      rcases List.mem_cons.1 (hx.2 (by simp [hxm])) with e | hm
      · subst e; have := k1 x hxm; rw [lt_irr] at this; cases this
      · exact hm
theorem strs_snoc (l : List ByteArray) (s : ByteArray) : strsC l ++ [.string s] = strsC (l ++ [s]) := by simp [strsC]
theorem growS_snoc {y : ByteArray} {vo : Value} {cs : List ByteArray} {G : Own} (h : GrowS 9 1 vo (cs.length + 1) (strsC cs ++ [.string y]) G) : GrowS 9 1 vo (cs ++ [y]).length (strsC (cs ++ [y])) G := by rw [List.length_append, ← strs_snoc]; exact h
end Go.Proofs.YtaooojjhlngcmaaGreatDoor
namespace Go.Proofs.YtaooojjhlngcmaaGreatDoor
section
set_option maxRecDepth 100000
theorem en20 : Enters Tryz.prog 20 := enters_mk Tryz.func20 (by kernel_rfl) rfl
theorem en31 : Enters Tryz.prog 31 := enters_mk Tryz.func31 (by kernel_rfl) rfl
end
open Go.RowKit
theorem RowR.lent {α : Type} {rc : α → List Value} {X1 : PMap} {e : TypeId} {size : Nat} {v : Value} {rs : List α} {G : Own} (hg : GrowS e size v rs.length (rs.map rc).flatten G) (h2 : ∀ p ∈ G, Blk X1 p.b p.cs) : RowR rc X1 v rs := by
  rcases hg with ⟨h0, _, rfl, _⟩ | ⟨b, cap, rfl, rfl, h3, h4, _⟩
  · exact .inl ⟨List.eq_nil_of_length_eq_zero h0, _, _, rfl⟩
  · rcases Nat.eq_zero_or_pos rs.length with h0 | h0
    · exact .inl ⟨List.eq_nil_of_length_eq_zero h0, _, _, by rw [h0]⟩
    · exact .inr ⟨h0, b, cap, [], rfl, h2 ⟨b, _, e, cap * size⟩ (by simp), h3, h4⟩
theorem rcheck_spec {X : PMap} {v : Value} {cs : List Con} (h : ConsRi X v cs) (hl : cs.length ≤ 40) (hw : wtC cs < 15000000) (hww : ∀ c ∈ cs, wtE c.ex < 900000) : Spec Tryz.prog 19 [v] X fun u _ => u = .int .i64 (chkAll cs) := by
  obtain ⟨rows, hr, hrl, hrow⟩ := h
  obtain ⟨A, cp, rfl⟩ := hr.form
  have hmx : maxLen = 9223372036854775807 := rfl
  by_cases h32 : 32 < cs.length
  · refine Spec.enter Tryz.func19 rfl Tryz.ntmps19 rfl ?_
    intro w0 hw0
    refine T.seq ?_
    refine T.region ?_
    refine SL.y (op_assign (v := .int .i64 ((0 : Nat) : Int)) rfl) rfl rfl ?_
    refine SL.nil ?_
    refine T.seq ?_
    refine T.seq ?_
    refine T.region ?_
    refine SL.y (op_move rfl) rfl rfl ?_
    refine SL.y (op_lenS Tryz.underlying24 rfl) rfl rfl ?_
    first | refine SL.y (op_gtrT rfl rfl (by omega)) rfl rfl ?_ | refine SL.y (op_gtrF rfl rfl (by omega)) rfl rfl ?_ | refine SL.y (op_gtr rfl rfl) rfl rfl ?_
    refine SL.nil ?_
    refine T.condT rfl ?_
    refine T.seq ?_
    refine T.region ?_
    refine SL.y (op_assign (v := .int .i64 ((3 : Nat) : Int)) rfl) rfl rfl ?_
    refine SL.nil ?_
    refine T.ret1 rfl (ResIs.tmp rfl) ?_
    rw [chkAll, if_pos h32]; rfl
  refine Spec.enter Tryz.func19 rfl Tryz.ntmps19 rfl ?_
  intro w0 hw0
  refine T.seq ?_
  refine T.region ?_
  refine SL.y (op_assign (v := .int .i64 ((0 : Nat) : Int)) rfl) rfl rfl ?_
  refine SL.nil ?_
  refine T.seq ?_
  refine T.seq ?_
  refine T.region ?_
  refine SL.y (op_move rfl) rfl rfl ?_
  refine SL.y (op_lenS Tryz.underlying24 rfl) rfl rfl ?_
  first | refine SL.y (op_gtrT rfl rfl (by omega)) rfl rfl ?_ | refine SL.y (op_gtrF rfl rfl (by omega)) rfl rfl ?_ | refine SL.y (op_gtr rfl rfl) rfl rfl ?_
  refine SL.nil ?_
  refine T.condF rfl ?_
  refine T.skip ?_
  refine T.seq ?_
  refine T.region ?_
  refine SL.y (op_assign (v := .int .i64 ((0 : Nat) : Int)) rfl) rfl rfl ?_
  refine SL.nil ?_
  refine T.seq ?_
  refine T.region ?_
  refine SL.y (op_assign rfl) rfl rfl ?_
  refine SL.nil ?_
  refine T.seq ?_
  refine T.seq ?_
  refine T.region ?_
  refine SL.y (op_move rfl) rfl rfl ?_
  refine SL.y (op_lenS Tryz.underlying24 rfl) rfl rfl ?_
  refine SL.y (op_move (v := .int .i64 ((0 : Nat) : Int)) rfl) rfl rfl ?_
  refine SL.nil ?_
  refine T.block ?_
  refine T.loopW (fun m env own X' => ∃ (i : Nat) (vo : Value), m = rows.length - i ∧ i ≤ rows.length ∧ X.le X' ∧ chkCs [] (cs.take i) = 0 ∧ GrowS 9 1 vo ((cs.take i).map (·.name)).length (strsC ((cs.take i).map (·.name))) own ∧ env = [(3, .int .i64 ((linesL (cs.take i)).length : Int)), (4, vo), (11, .slice A rows.length cp), (12, .int .i64 (rows.length : Int)), (13, .int .i64 (i : Int))]) rows.length ⟨0, _, by simp, by omega, PMap.le_refl _, by simp [chkCs], GrowS.nil, rfl⟩ (by repeat (first | exact Sub.nil | refine Sub.cons rfl ?_)) ?_
  rintro m _ G X1 ⟨i, vo, rfl, hi, hX1, hz0, hG, rfl⟩
  have hll := linesL_len (cs := cs.take i) fun c hc => (chkCs_mem hz0 c hc).2.2.1.2.1
  have hwt := wtC_take_le cs i
  have hti : (cs.take i).length ≤ 40 := by rw [List.length_take]; omega
  obtain ⟨Av, cv, rfl⟩ := hG.form
  rcases Nat.lt_or_ge i rows.length with hil | hil
  · obtain ⟨r2, hr2⟩ : ∃ r2, rows[i]? = some r2 := ⟨_, List.getElem?_eq_getElem hil⟩
    obtain ⟨c, hc2⟩ : ∃ c, cs[i]? = some c := ⟨_, List.getElem?_eq_getElem (by omega)⟩
    have hmc := List.mem_of_getElem? hc2
    have hrc := hrow i c r2 hc2 hr2
    obtain ⟨bA, pre, rfl, hbA⟩ := hr.blk (by omega)
    have hrc0 := hrc
    obtain ⟨o8, n8, a8, b8, l8, c8, l9, c9, rfl⟩ := hrc.form
    have hex := hrc.2.2.2
    simp only at hex
    have hwe := hww c hmc
    have hts := take_snoc hc2
    refine T.seq ?_
    refine T.region ?_
    first | refine SL.y (op_lssT rfl rfl (by omega)) rfl rfl ?_ | refine SL.y (op_lssF rfl rfl (by omega)) rfl rfl ?_ | refine SL.y (op_lss rfl rfl) rfl rfl ?_
    refine SL.nil ?_
    refine T.seq ?_
    refine T.condT rfl ?_
    refine T.skip ?_
    refine T.seq ?_
    refine T.block ?_
    refine T.seq ?_
    refine T.region ?_
    first | refine SL.y (op_indexN Tryz.underlying24 ty53 rfl rfl (by omega)) rfl rfl ?_ | refine SL.y (op_index Tryz.underlying24 ty53 rfl rfl (by omega) (by omega)) rfl rfl ?_
    refine SL.y (op_loadX (v := .agg #[.bool c.enf, .int .i64 (c.kind : Int), .string c.name, .int .i64 (o8 : Int), .int .i64 n8, .slice a8 l8 c8, .slice b8 l9 c9]) ty53 rfl (hbA.mono hX1) (row_read rc7i_len hr2 (by omega))) rfl rfl ?_
    by_cases hk1 : c.kind < 1
    · have he : errC ((cs.take i).map (·.name)) c = 1 := by rw [errC, if_pos (.inl hk1)]
      refine SL.x (op_alloc z53) rfl rfl ?_
      rintro _ _ _ ⟨B6, rfl, rfl, rfl⟩
      refine SL.x (op_store ty53 rfl rfl (by repeat constructor) rfl rfl rfl) rfl rfl ?_
      rintro _ _ _ ⟨rfl, rfl⟩
      refine SL.nil ?_
      refine T.seq ?_
      refine T.seq ?_
      refine T.region ?_
      refine SL.y (op_fieldAddr fa53_1 rfl) rfl rfl ?_
      first | refine SL.y (op_load ty3 rfl (by repeat constructor) rfl) rfl rfl ?_ | refine SL.y (op_loadX ty3 rfl (by assumption) rfl) rfl rfl ?_
      first | refine SL.y (op_lssT rfl rfl (by omega)) rfl rfl ?_ | refine SL.y (op_lssF rfl rfl (by omega)) rfl rfl ?_ | refine SL.y (op_lss rfl rfl) rfl rfl ?_
      refine SL.y (op_move rfl) rfl rfl ?_
      first | refine SL.skip rfl rfl ?_ | refine SL.y (op_fieldAddr fa53_1 rfl) rfl rfl ?_
      first | refine SL.skip rfl rfl ?_ | refine SL.y (op_load ty3 rfl (by repeat constructor) rfl) rfl rfl ?_ | refine SL.y (op_loadX ty3 rfl (by assumption) rfl) rfl rfl ?_
      first | refine SL.skip rfl rfl ?_ | refine SL.y (op_gtrT rfl rfl (by omega)) rfl rfl ?_ | refine SL.y (op_gtrF rfl rfl (by omega)) rfl rfl ?_ | refine SL.y (op_gtr rfl rfl) rfl rfl ?_
      first | refine SL.y (op_pickT rfl rfl) rfl rfl ?_ | refine SL.y (op_pickF rfl rfl) rfl rfl ?_ | refine SL.y (op_pickB rfl rfl rfl) rfl rfl ?_
      refine SL.nil ?_
      refine T.condT rfl ?_
      refine T.seq ?_
      refine T.region ?_
      refine SL.y (op_assign (v := .int .i64 ((1 : Nat) : Int)) rfl) rfl rfl ?_
      refine SL.nil ?_
      refine T.ret1 rfl (ResIs.tmp rfl) ?_
      rw [chkAll, if_neg h32, chkCs_at hz0 hc2 (by rw [he]; decide), he]; rfl
    by_cases hk3 : 3 < c.kind
    · have he : errC ((cs.take i).map (·.name)) c = 1 := by rw [errC, if_pos (.inr hk3)]
      refine SL.x (op_alloc z53) rfl rfl ?_
      rintro _ _ _ ⟨B6, rfl, rfl, rfl⟩
      refine SL.x (op_store ty53 rfl rfl (by repeat constructor) rfl rfl rfl) rfl rfl ?_
      rintro _ _ _ ⟨rfl, rfl⟩
      refine SL.nil ?_
      refine T.seq ?_
      refine T.seq ?_
      refine T.region ?_
      refine SL.y (op_fieldAddr fa53_1 rfl) rfl rfl ?_
      first | refine SL.y (op_load ty3 rfl (by repeat constructor) rfl) rfl rfl ?_ | refine SL.y (op_loadX ty3 rfl (by assumption) rfl) rfl rfl ?_
      first | refine SL.y (op_lssT rfl rfl (by omega)) rfl rfl ?_ | refine SL.y (op_lssF rfl rfl (by omega)) rfl rfl ?_ | refine SL.y (op_lss rfl rfl) rfl rfl ?_
      refine SL.y (op_move rfl) rfl rfl ?_
      first | refine SL.skip rfl rfl ?_ | refine SL.y (op_fieldAddr fa53_1 rfl) rfl rfl ?_
      first | refine SL.skip rfl rfl ?_ | refine SL.y (op_load ty3 rfl (by repeat constructor) rfl) rfl rfl ?_ | refine SL.y (op_loadX ty3 rfl (by assumption) rfl) rfl rfl ?_
      first | refine SL.skip rfl rfl ?_ | refine SL.y (op_gtrT rfl rfl (by omega)) rfl rfl ?_ | refine SL.y (op_gtrF rfl rfl (by omega)) rfl rfl ?_ | refine SL.y (op_gtr rfl rfl) rfl rfl ?_
      first | refine SL.y (op_pickT rfl rfl) rfl rfl ?_ | refine SL.y (op_pickF rfl rfl) rfl rfl ?_ | refine SL.y (op_pickB rfl rfl rfl) rfl rfl ?_
      refine SL.nil ?_
      refine T.condT rfl ?_
      refine T.seq ?_
      refine T.region ?_
      refine SL.y (op_assign (v := .int .i64 ((1 : Nat) : Int)) rfl) rfl rfl ?_
      refine SL.nil ?_
      refine T.ret1 rfl (ResIs.tmp rfl) ?_
      rw [chkAll, if_neg h32, chkCs_at hz0 hc2 (by rw [he]; decide), he]; rfl
    have hk : ¬(c.kind < 1 ∨ 3 < c.kind) := fun h => by omega
    refine SL.x (op_alloc z53) rfl rfl ?_
    rintro _ _ _ ⟨B6, rfl, rfl, rfl⟩
    refine SL.x (op_store ty53 rfl rfl (by repeat constructor) rfl rfl rfl) rfl rfl ?_
    rintro _ _ _ ⟨rfl, rfl⟩
    refine SL.nil ?_
    refine T.seq ?_
    refine T.seq ?_
    refine T.region ?_
    refine SL.y (op_fieldAddr fa53_1 rfl) rfl rfl ?_
    first | refine SL.y (op_load ty3 rfl (by repeat constructor) rfl) rfl rfl ?_ | refine SL.y (op_loadX ty3 rfl (by assumption) rfl) rfl rfl ?_
    first | refine SL.y (op_lssT rfl rfl (by omega)) rfl rfl ?_ | refine SL.y (op_lssF rfl rfl (by omega)) rfl rfl ?_ | refine SL.y (op_lss rfl rfl) rfl rfl ?_
    refine SL.y (op_move rfl) rfl rfl ?_
    first | refine SL.skip rfl rfl ?_ | refine SL.y (op_fieldAddr fa53_1 rfl) rfl rfl ?_
    first | refine SL.skip rfl rfl ?_ | refine SL.y (op_load ty3 rfl (by repeat constructor) rfl) rfl rfl ?_ | refine SL.y (op_loadX ty3 rfl (by assumption) rfl) rfl rfl ?_
    first | refine SL.skip rfl rfl ?_ | refine SL.y (op_gtrT rfl rfl (by omega)) rfl rfl ?_ | refine SL.y (op_gtrF rfl rfl (by omega)) rfl rfl ?_ | refine SL.y (op_gtr rfl rfl) rfl rfl ?_
    first | refine SL.y (op_pickT rfl rfl) rfl rfl ?_ | refine SL.y (op_pickF rfl rfl) rfl rfl ?_ | refine SL.y (op_pickB rfl rfl rfl) rfl rfl ?_
    refine SL.nil ?_
    refine T.condF rfl ?_
    refine T.skip ?_
    refine T.seq ?_
    refine T.seq ?_
    refine T.region ?_
    refine SL.y (op_fieldAddr fa53_2 rfl) rfl rfl ?_
    first | refine SL.y (op_load ty9 rfl (by repeat constructor) rfl) rfl rfl ?_ | refine SL.y (op_loadX ty9 rfl (by assumption) rfl) rfl rfl ?_
    refine SL.x (op_callF en29 (vs := [_]) rfl (rvalid_spec)) rfl rfl ?_
    rintro _ _ X3 ⟨rfl, hX3, rfl⟩
    by_cases hv : validS c.name
    case neg =>
      have he : errC ((cs.take i).map (·.name)) c = 9 := by rw [errC, if_neg hk, if_pos hv]
      rw [decide_eq_false hv]
      refine SL.y (op_not rfl) rfl rfl ?_
      refine SL.nil ?_
      refine T.condT rfl ?_
      refine T.seq ?_
      refine T.region ?_
      refine SL.y (op_assign (v := .int .i64 ((9 : Nat) : Int)) rfl) rfl rfl ?_
      refine SL.nil ?_
      refine T.ret1 rfl (ResIs.tmp rfl) ?_
      rw [chkAll, if_neg h32, chkCs_at hz0 hc2 (by rw [he]; decide), he]; rfl
    rw [decide_eq_true hv]
    refine SL.y (op_not rfl) rfl rfl ?_
    refine SL.nil ?_
    refine T.condF rfl ?_
    refine T.skip ?_
    refine T.seq ?_
    refine T.seq ?_
    refine T.region ?_
    refine SL.y (op_move rfl) rfl rfl ?_
    refine SL.y (op_fieldAddr fa53_2 rfl) rfl rfl ?_
    first | refine SL.y (op_load ty9 rfl (by repeat constructor) rfl) rfl rfl ?_ | refine SL.y (op_loadX ty9 rfl (by assumption) rfl) rfl rfl ?_
    refine SL.x (op_callLend en30 (vs := [_, _]) rfl ((fun X1 h1 h2 => (number_spec8 (s := c.name) (RowR.lent (rc := strC) (by rw [strsC_flat]; exact hG) (fun p hp => h2 p (List.mem_cons_of_mem _ hp))) (by rw [List.length_map]; omega) : Spec _ _ _ _ fun u _ => ∃ k : Int, u = .int .i64 k ∧ (0 < k ↔ c.name ∈ (cs.take i).map (·.name)) ∧ 0 ≤ k)))) rfl rfl ?_
    rintro _ _ _ ⟨rfl, rfl, k, rfl, hkm, hk0⟩
    by_cases hm : c.name ∈ (cs.take i).map (·.name)
    · have he : errC ((cs.take i).map (·.name)) c = 5 := by rw [errC, if_neg hk, if_neg (fun h => h hv), if_pos hm]
      have hkp := hkm.2 hm
      first | refine SL.y (op_gtrT rfl rfl (by omega)) rfl rfl ?_ | refine SL.y (op_gtrF rfl rfl (by omega)) rfl rfl ?_ | refine SL.y (op_gtr rfl rfl) rfl rfl ?_
      refine SL.nil ?_
      refine T.condT rfl ?_
      refine T.seq ?_
      refine T.region ?_
      refine SL.y (op_assign (v := .int .i64 ((5 : Nat) : Int)) rfl) rfl rfl ?_
      refine SL.nil ?_
      refine T.ret1 rfl (ResIs.tmp rfl) ?_
      rw [chkAll, if_neg h32, chkCs_at hz0 hc2 (by rw [he]; decide), he]; rfl
    have he : errC ((cs.take i).map (·.name)) c = chkE c.ex := by rw [errC, if_neg hk, if_neg (fun h => h hv), if_neg hm]
    have hkn : ¬0 < k := fun h => hm (hkm.1 h)
    first | refine SL.y (op_gtrT rfl rfl (by omega)) rfl rfl ?_ | refine SL.y (op_gtrF rfl rfl (by omega)) rfl rfl ?_ | refine SL.y (op_gtr rfl rfl) rfl rfl ?_
    refine SL.nil ?_
    refine T.condF rfl ?_
    refine T.skip ?_
    refine T.seq ?_
    refine T.region ?_
    refine SL.y (op_move rfl) rfl rfl ?_
    refine SL.y (op_fieldAddr fa53_2 rfl) rfl rfl ?_
    first | refine SL.y (op_load ty9 rfl (by repeat constructor) rfl) rfl rfl ?_ | refine SL.y (op_loadX ty9 rfl (by assumption) rfl) rfl rfl ?_
    refine SL.x (op_buildSlice Tryz.underlying32 bs9 (qs := [(0, _)]) rfl rfl rfl rfl rfl) rfl rfl ?_
    rintro _ _ _ ⟨B37, rfl, rfl, rfl⟩
    refine SL.x (op_appendG (own0 := [_]) sl32 rfl hG rfl rfl rfl (by rw [List.length_map]; omega) (by rw [List.length_map]; omega)) rfl rfl ?_
    rintro vo2 _ _ ⟨G2, rfl, rfl, hG2⟩
    have hG2 := growS_snoc hG2
    refine SL.y (op_assign rfl) rfl rfl ?_
    refine SL.nil ?_
    refine T.seq ?_
    refine T.region ?_
    refine SL.y (op_fieldAddr fa53_3 rfl) rfl rfl ?_
    first | refine SL.y (op_load ty50 rfl (by repeat constructor) rfl) rfl rfl ?_ | refine SL.y (op_loadX ty50 rfl (by assumption) rfl) rfl rfl ?_
    have hcc := rchk_spec (Nat.lt_trans hwe (by omega)) ((hex.mono hX1).mono hX3)
    try simp only at hcc
    refine SL.x (op_callF en31 (vs := [_]) rfl (hcc)) rfl rfl ?_
    rintro _ _ X5 ⟨rfl, hX5, rfl⟩
    by_cases hz : chkE c.ex = 0
    · rw [hz] at he
      rw [hz]
      have hls := lineB_size (c := c) hv.2.1
      have hX15 := (hX1.trans' hX3).trans' hX5
      have hrl2 := rline_spec (hrc0.mono hX15) (by omega) (by omega) hv.2.1 hwe (chkE_node hz)
      try simp only [rc7i] at hrl2
      refine SL.y (op_assign rfl) rfl rfl ?_
      refine SL.nil ?_
      refine T.seq ?_
      refine T.seq ?_
      refine T.region ?_
      refine SL.y (op_move rfl) rfl rfl ?_
      first | refine SL.y (op_neqT rfl rfl (by omega)) rfl rfl ?_ | refine SL.y (op_neqF rfl rfl (by omega)) rfl rfl ?_ | refine SL.y (op_neq rfl rfl) rfl rfl ?_
      refine SL.nil ?_
      refine T.condF rfl ?_
      refine T.skip ?_
      refine T.region ?_
      refine SL.y (op_move rfl) rfl rfl ?_
      first | refine SL.y (op_load ty53 rfl (by repeat constructor) rfl) rfl rfl ?_ | refine SL.y (op_loadX ty53 rfl (by assumption) rfl) rfl rfl ?_
      refine SL.x (op_callF en20 (vs := [_]) rfl (hrl2)) rfl rfl ?_
      rintro _ _ X6 ⟨rfl, hX6, rfl⟩
      refine SL.y (op_lenStr Tryz.underlying9 rfl) rfl rfl ?_
      first | refine SL.y (op_addN rfl rfl (by omega)) rfl rfl ?_ | refine SL.y (op_add rfl rfl (by omega) (by omega)) rfl rfl ?_ | refine SL.y (op_addW rfl rfl) rfl rfl ?_
      refine SL.y (op_assign rfl) rfl rfl ?_
      refine SL.nil ?_
      refine T.blk ?_
      refine T.region ?_
      first | refine SL.y (op_addN (q := 1) rfl rfl (by omega)) rfl rfl ?_ | refine SL.y (op_add rfl rfl (by omega) (by omega)) rfl rfl ?_ | refine SL.y (op_addW rfl rfl) rfl rfl ?_
      refine SL.y (op_move rfl) rfl rfl ?_
      refine SL.nil ?_
      refine T.less (List.sublist_cons_self _ _) ?_
      have hln : (linesL (cs.take (i + 1))).length = (linesL (cs.take i)).length + (lineB c).size := by
        rw [hts, linesL_snoc, List.length_append]; simp
      have hnm : (cs.take (i + 1)).map (·.name) = (cs.take i).map (·.name) ++ [c.name] := by rw [hts, List.map_append]; rfl
      exact T.backW (rows.length - (i + 1)) (by omega) ⟨i + 1, _, rfl, by omega, hX15.trans' hX6, chkCs_snoc hz0 hc2 he, by rw [hnm]; exact hG2, by rw [hln]⟩ (by repeat (first | exact Sub.nil | refine Sub.cons rfl ?_))
    · refine SL.y (op_assign rfl) rfl rfl ?_
      refine SL.nil ?_
      refine T.seq ?_
      refine T.seq ?_
      refine T.region ?_
      refine SL.y (op_move rfl) rfl rfl ?_
      first | refine SL.y (op_neqT rfl rfl (by omega)) rfl rfl ?_ | refine SL.y (op_neqF rfl rfl (by omega)) rfl rfl ?_ | refine SL.y (op_neq rfl rfl) rfl rfl ?_
      refine SL.nil ?_
      refine T.condT rfl ?_
      refine T.seq ?_
      refine T.region ?_
      refine SL.y (op_move rfl) rfl rfl ?_
      refine SL.y (op_assign rfl) rfl rfl ?_
      refine SL.nil ?_
      refine T.ret1 rfl (ResIs.tmp rfl) ?_
      rw [chkAll, if_neg h32, chkCs_at hz0 hc2 (by rw [he]; exact hz), he, if_pos hz]
  · obtain rfl : i = rows.length := by omega
    have e : cs.take rows.length = cs := List.take_of_length_le (by omega)
    rw [e] at hz0 hll ⊢
    by_cases h8 : 8000 < (linesL cs).length
    · skip
      refine T.seq ?_
      refine T.region ?_
      first | refine SL.y (op_lssT rfl rfl (by omega)) rfl rfl ?_ | refine SL.y (op_lssF rfl rfl (by omega)) rfl rfl ?_ | refine SL.y (op_lss rfl rfl) rfl rfl ?_
      refine SL.nil ?_
      refine T.seq ?_
      refine T.condF rfl ?_
      refine T.exit (T.exitCode (T.exitCut (T.exitBlk ?_)))
      refine T.seq ?_
      refine T.seq ?_
      refine T.region ?_
      refine SL.y (op_move rfl) rfl rfl ?_
      first | refine SL.y (op_gtrT rfl rfl (by omega)) rfl rfl ?_ | refine SL.y (op_gtrF rfl rfl (by omega)) rfl rfl ?_ | refine SL.y (op_gtr rfl rfl) rfl rfl ?_
      refine SL.nil ?_
      refine T.condT rfl ?_
      refine T.seq ?_
      refine T.region ?_
      refine SL.y (op_assign (v := .int .i64 ((3 : Nat) : Int)) rfl) rfl rfl ?_
      refine SL.nil ?_
      refine T.ret1 rfl (ResIs.tmp rfl) ?_
      rw [chkAll, if_neg h32, if_neg (by simp [hz0]), if_pos h8]; rfl
    · refine T.seq ?_
      refine T.region ?_
      first | refine SL.y (op_lssT rfl rfl (by omega)) rfl rfl ?_ | refine SL.y (op_lssF rfl rfl (by omega)) rfl rfl ?_ | refine SL.y (op_lss rfl rfl) rfl rfl ?_
      refine SL.nil ?_
      refine T.seq ?_
      refine T.condF rfl ?_
      refine T.exit (T.exitCode (T.exitCut (T.exitBlk ?_)))
      refine T.seq ?_
      refine T.seq ?_
      refine T.region ?_
      refine SL.y (op_move rfl) rfl rfl ?_
      first | refine SL.y (op_gtrT rfl rfl (by omega)) rfl rfl ?_ | refine SL.y (op_gtrF rfl rfl (by omega)) rfl rfl ?_ | refine SL.y (op_gtr rfl rfl) rfl rfl ?_
      refine SL.nil ?_
      refine T.condF rfl ?_
      refine T.skip ?_
      refine T.seq ?_
      refine T.region ?_
      refine SL.y (op_assign (v := .int .i64 ((0 : Nat) : Int)) rfl) rfl rfl ?_
      refine SL.nil ?_
      refine T.ret1 rfl (ResIs.tmp rfl) ?_
      rw [chkAll, if_neg h32, if_neg (by simp [hz0]), if_neg h8]; rfl
end Go.Proofs.YtaooojjhlngcmaaGreatDoor
namespace Go.Proofs.YtaooojjhlngcmaaGreatDoor
open Go.RowKit
theorem itoa_ok {X : PMap} (hP : Pow10 X) : ItoaOk 1000000 X := fun _ hX v hv => itoaL_spec (hP.mono hX) v (by omega)
mutual
theorem num_of : ∀ e : Ex, nodeE e = 0 → numE 1000000 e
  | .mk op n ns al, h => by
    obtain ⟨h1, h2⟩ := node_ok h
    obtain ⟨_, _, _, _, _, _, _, _, o9⟩ := own_ok h1
    exact (show (op = 1 → n < ((1000000 : Nat) : Int)) ∧ numL 1000000 al from ⟨fun _ => by omega, num_ofL al h2⟩)
theorem num_ofL : ∀ l : List Ex, nodeL l = 0 → numL 1000000 l
  | [], _ => trivial
  | a :: l, h => by
    have h1 : nodeE a = 0 := nodeL_zero h a (by simp)
    rw [nodeL, if_neg (fun h => h h1)] at h
    exact (show numE 1000000 a ∧ numL 1000000 l from ⟨num_of a h1, num_ofL l h⟩)
end
end Go.Proofs.YtaooojjhlngcmaaGreatDoor
namespace Go.Proofs.YtaooojjhlngcmaaGreatDoor
open Go.RowKit
section
variable {P : Program} {n : NM} {own : Own} {X : PMap} {env : Env}
theorem op_sliceData0 {x : Operand} {ts : Array TypeId} {l c : Nat} (hx : eev env x = some (.slice none l c)) : OpY P n env own X (.call { callee := .builtin .unsafeSliceData, args := #[x], argTypes := ts }) (.pointer none) := by
  intro a W oper hop ha _
  have hr : (Builtin.unsafeSliceData_ ts oper.type #[.slice none l c]).run P W = .ok (.pointer none) W := rfl
  simp only [execOp, hop, resolve, invoke, builtin, Sem.run_bind, Sem.run_pure, Result.andThen_ok, List.map_toArray, List.map_cons, List.map_nil, ha.eval hx, hr]
theorem op_unsafeStr0 {x y : Operand} {pt it : TypeId} (hx : eev env x = some (.pointer none)) (hy : eev env y = some (.int .i64 0)) : OpY P n env own X (.call { callee := .builtin .unsafeString, args := #[x, y], argTypes := #[pt, it] }) (.string ⟨#[]⟩) := by
  intro a W oper hop ha _
  have hr : (Builtin.unsafeString_ #[pt, it] oper.type #[.pointer none, .int .i64 0]).run P W = .ok (.string ⟨#[]⟩) W := rfl
  simp only [execOp, hop, resolve, invoke, builtin, Sem.run_bind, Sem.run_pure, Result.andThen_ok, List.map_toArray, List.map_cons, List.map_nil, ha.eval hx, ha.eval hy, hr]
end
theorem bstring0_spec {X : PMap} {b : Nat} {p : Value} : SpecM Tryz.prog 28 [.pointer (some ⟨b, 0, none⟩)] X [BldO b p (.slice none 0 0)] fun u L' _ => u = .string ⟨#[]⟩ ∧ L' = [BldO b p (.slice none 0 0)] := by
  refine SpecM.enter Tryz.func28 rfl Tryz.ntmps28 rfl ?_
  intro w0 X0 own0
  refine T.perm (own' := BldO b p (.slice none 0 0) :: own0) (List.Perm.refl _) ?_
  refine T.seq ?_
  refine T.region ?_
  refine SL.y (op_assign rfl) rfl rfl ?_
  refine SL.nil ?_
  refine T.seq ?_
  refine T.draw (by kernel_rfl) 12 [.t 0, .t 1, .t 2, .t 3, .t 4, .t 5, .t 6, .t 7, .t 8, .t 9, .r 10, .t 11] (by kernel_rfl) ?_
  refine SD.take rfl panicBody (op_move rfl) rfl rfl ?_
  first | refine SD.take rfl panicBody (op_nil rfl) rfl rfl ?_ | refine SD.take rfl panicBody (op_nilFn rfl) rfl rfl ?_
  refine SD.take rfl panicBody (op_fieldAddr fa70_1 rfl) rfl rfl ?_
  first | refine SD.take rfl panicBody (op_load ty60 rfl (by repeat constructor) rfl) rfl rfl ?_ | refine SD.take rfl panicBody (op_loadX ty60 rfl (by assumption) rfl) rfl rfl ?_
  refine SD.take rfl panicBody (op_sliceData0 rfl) rfl rfl ?_
  refine SD.take rfl panicBody (op_move rfl) rfl rfl ?_
  first | refine SD.take rfl panicBody (op_nil rfl) rfl rfl ?_ | refine SD.take rfl panicBody (op_nilFn rfl) rfl rfl ?_
  refine SD.take rfl panicBody (op_fieldAddr fa70_1 rfl) rfl rfl ?_
  first | refine SD.take rfl panicBody (op_load ty60 rfl (by repeat constructor) rfl) rfl rfl ?_ | refine SD.take rfl panicBody (op_loadX ty60 rfl (by assumption) rfl) rfl rfl ?_
  refine SD.take rfl panicBody (op_lenS Tryz.underlying60 rfl) rfl rfl ?_
  refine SD.run rfl (opx_of (fun u => u = .string ⟨#[]⟩) (op_unsafeStr0 rfl rfl) rfl rfl) rfl rfl ?_
  rintro _ _ _ ⟨rfl, rfl, rfl⟩
  refine SD.take rfl panicBody (op_assign rfl) rfl rfl ?_
  refine SD.nil ?_
  show SL _ _ _ _ _ _ _ [] _ _ _
  refine SL.nil ?_
  refine T.retM1 [BldO b p (.slice none 0 0)] rfl (ResIs.tmp rfl) (List.Perm.refl _) ?_
  exact ⟨PMap.le_refl _, rfl, rfl⟩
theorem lines0_spec {X : PMap} {A : Option Addr} {c : Nat} : Spec Tryz.prog 17 [.slice A 0 c] X fun u _ => u = .string ⟨#[]⟩ := by
  refine Spec.enter Tryz.func17 rfl Tryz.ntmps17 rfl ?_
  intro w0 hw0
  refine T.seq ?_
  refine T.region ?_
  refine SL.y (op_assign rfl) rfl rfl ?_
  refine SL.nil ?_
  refine T.seq ?_
  refine T.region ?_
  refine SL.x (op_alloc z70) rfl rfl ?_
  rintro _ _ _ ⟨B3, rfl, rfl, rfl⟩
  refine SL.nil ?_
  refine T.seq ?_
  refine T.seq ?_
  refine T.region ?_
  refine SL.y (op_move rfl) rfl rfl ?_
  refine SL.y (op_lenS Tryz.underlying27 rfl) rfl rfl ?_
  refine SL.y (op_move (v := .int .i64 ((0 : Nat) : Int)) rfl) rfl rfl ?_
  refine SL.nil ?_
  refine T.block ?_
  refine T.unrollStart 1 ?_
  refine T.unroll ?_
  refine T.seq ?_
  refine T.region ?_
  first | refine SL.y (op_lssT rfl rfl (by omega)) rfl rfl ?_ | refine SL.y (op_lssF rfl rfl (by omega)) rfl rfl ?_ | refine SL.y (op_lss rfl rfl) rfl rfl ?_
  refine SL.nil ?_
  refine T.seq ?_
  refine T.condF rfl ?_
  refine T.exit (T.exitCode (T.exitMore (T.exitBlk ?_)))
  refine T.seq ?_
  refine T.region ?_
  refine SL.x (op_callM en28 (vs := [_]) rfl (bstring0_spec) rfl) rfl rfl ?_
  rintro _ _ X5 ⟨_, rfl, hX5, rfl, rfl⟩
  refine SL.y (op_assign rfl) rfl rfl ?_
  refine SL.nil ?_
  refine T.ret1 rfl (ResIs.tmp rfl) ?_
  rfl
theorem check0_spec {X : PMap} {A : Option Addr} {c : Nat} : Spec Tryz.prog 16 [.slice A 0 c] X fun u _ => u = .int .i64 0 := by
  refine Spec.enter Tryz.func16 rfl Tryz.ntmps16 rfl ?_
  intro w0 hw0
  refine T.seq ?_
  refine T.region ?_
  refine SL.y (op_assign (v := .int .i64 ((0 : Nat) : Int)) rfl) rfl rfl ?_
  refine SL.nil ?_
  refine T.seq ?_
  refine T.seq ?_
  refine T.region ?_
  refine SL.y (op_move rfl) rfl rfl ?_
  refine SL.y (op_lenS Tryz.underlying27 rfl) rfl rfl ?_
  first | refine SL.y (op_gtrT rfl rfl (by omega)) rfl rfl ?_ | refine SL.y (op_gtrF rfl rfl (by omega)) rfl rfl ?_ | refine SL.y (op_gtr rfl rfl) rfl rfl ?_
  refine SL.nil ?_
  refine T.condF rfl ?_
  refine T.skip ?_
  refine T.seq ?_
  refine T.seq ?_
  refine T.region ?_
  refine SL.y (op_move rfl) rfl rfl ?_
  refine SL.y (op_lenS Tryz.underlying27 rfl) rfl rfl ?_
  refine SL.y (op_move (v := .int .i64 ((0 : Nat) : Int)) rfl) rfl rfl ?_
  refine SL.nil ?_
  refine T.block ?_
  refine T.unrollStart 1 ?_
  refine T.unroll ?_
  refine T.seq ?_
  refine T.region ?_
  first | refine SL.y (op_lssT rfl rfl (by omega)) rfl rfl ?_ | refine SL.y (op_lssF rfl rfl (by omega)) rfl rfl ?_ | refine SL.y (op_lss rfl rfl) rfl rfl ?_
  refine SL.nil ?_
  refine T.seq ?_
  refine T.condF rfl ?_
  refine T.exit (T.exitCode (T.exitMore (T.exitBlk ?_)))
  refine T.seq ?_
  refine T.seq ?_
  refine T.region ?_
  refine SL.y (op_move rfl) rfl rfl ?_
  refine SL.x (op_callF en17 (vs := [_]) rfl (lines0_spec)) rfl rfl ?_
  rintro _ _ X5 ⟨rfl, hX5, rfl⟩
  have k0 : (⟨#[]⟩ : ByteArray).size = 0 := rfl
  refine SL.y (op_lenStr Tryz.underlying9 rfl) rfl rfl ?_
  first | refine SL.y (op_gtrT rfl rfl (by omega)) rfl rfl ?_ | refine SL.y (op_gtrF rfl rfl (by omega)) rfl rfl ?_ | refine SL.y (op_gtr rfl rfl) rfl rfl ?_
  refine SL.nil ?_
  refine T.condF rfl ?_
  refine T.skip ?_
  refine T.seq ?_
  refine T.region ?_
  refine SL.y (op_assign (v := .int .i64 ((0 : Nat) : Int)) rfl) rfl rfl ?_
  refine SL.nil ?_
  refine T.ret1 rfl (ResIs.tmp rfl) ?_
  rfl
theorem print0_spec {X : PMap} {A : Option Addr} {c : Nat} : Spec Tryz.prog 6 [.slice A 0 c] X fun u _ => u = .string ⟨#[]⟩ := by
  refine Spec.enter Tryz.func6 rfl Tryz.ntmps6 rfl ?_
  intro w0 hw0
  refine T.seq ?_
  refine T.region ?_
  refine SL.y (op_assign rfl) rfl rfl ?_
  refine SL.nil ?_
  refine T.seq ?_
  refine T.seq ?_
  refine T.region ?_
  refine SL.y (op_move rfl) rfl rfl ?_
  refine SL.x (op_callF en16 (vs := [_]) rfl (check0_spec)) rfl rfl ?_
  rintro _ _ X1 ⟨rfl, hX1, rfl⟩
  first | refine SL.y (op_neqT rfl rfl (by omega)) rfl rfl ?_ | refine SL.y (op_neqF rfl rfl (by omega)) rfl rfl ?_ | refine SL.y (op_neq rfl rfl) rfl rfl ?_
  refine SL.nil ?_
  refine T.condF rfl ?_
  refine T.skip ?_
  refine T.seq ?_
  refine T.region ?_
  refine SL.y (op_move rfl) rfl rfl ?_
  refine SL.x (op_callF en17 (vs := [_]) rfl (lines0_spec)) rfl rfl ?_
  rintro _ _ X5 ⟨rfl, hX5, rfl⟩
  refine SL.y (op_assign rfl) rfl rfl ?_
  refine SL.nil ?_
  refine T.ret1 rfl (ResIs.tmp rfl) ?_
  rfl
theorem ConsR.form {X : PMap} {v : Value} {cs : List Con} (h : ConsR X v cs) : ∃ A cp, v = .slice A cs.length cp := by
  obtain ⟨rows, hr, hrl, _⟩ := h
  obtain ⟨A, cp, rfl⟩ := hr.form
  exact ⟨A, cp, by rw [hrl]⟩
theorem cprintA_spec {X : PMap} (hP : Pow10 X) {v : Value} {cs : List Con} (h : ConsR X v cs) (hl : cs.length ≤ 40) (hw : wtC cs < 15000000) (hww : ∀ c ∈ cs, wtE c.ex < 900000) : Spec Tryz.prog 6 [v] X fun u _ => u = .string (if chkAll cs = 0 then ⟨(linesL cs).toArray⟩ else ⟨#[]⟩) := by
  rcases Nat.eq_zero_or_pos cs.length with h0 | h0
  · obtain rfl := List.eq_nil_of_length_eq_zero h0
    obtain ⟨A, cp, rfl⟩ := h.form
    refine print0_spec.mono fun u _ _ hu => ?_
    rw [hu]; simp [chkAll, chkCs, linesL]
  · exact cprint_spec (itoa_ok hP) h hl h0 hw hww fun c _ hc => num_of c.ex (chkE_node hc)
end Go.Proofs.YtaooojjhlngcmaaGreatDoor
namespace Go.Proofs.YtaooojjhlngcmaaGreatDoor
open Go.RowKit
theorem cons_len (l : List Itm) : (consOf l).length ≤ 34 := by rw [consOf, List.length_map, List.length_take]; omega
theorem cons_wt (l : List Itm) : ∀ c ∈ consOf l, wtE c.ex < 300000 := fun c hc => by
  obtain ⟨x, _, rfl⟩ := List.mem_map.1 hc
  exact built_wt _
theorem wtC_le {K : Nat} : ∀ {cs : List Con}, (∀ c ∈ cs, wtE c.ex ≤ K) → wtC cs ≤ cs.length * K
  | [], _ => by simp [wtC]
  | c :: cs, h => by
    have h1 := wtC_le (cs := cs) fun x hx => h x (by simp [hx])
    have h2 := h c (by simp)
    simp only [wtC, List.map_cons, List.sum_cons, List.length_cons] at h1 ⊢
    rw [Nat.add_mul]; omega
theorem cons_wtC (l : List Itm) : wtC (consOf l) < 15000000 := by
  have h1 := wtC_le (K := 300000) fun c hc => Nat.le_of_lt (cons_wt l c hc)
  have h2 := cons_len l
  have h3 : (consOf l).length * 300000 ≤ 34 * 300000 := Nat.mul_le_mul_right _ h2
  omega
theorem cons_ok {l : List Itm} (h : ∀ x ∈ l, itOk x) : ∀ c ∈ consOf l, c.kind < 256 ∧ opsE c.ex ∧ wtE c.ex < 900000 := fun c hc => by
  have hw := cons_wt l c hc
  obtain ⟨x, hx, rfl⟩ := List.mem_map.1 hc
  obtain ⟨h1, _, h3⟩ := h x (List.mem_of_mem_take hx)
  exact ⟨h1, built_ops h3, by omega⟩
end Go.Proofs.YtaooojjhlngcmaaGreatDoor
namespace Go.Proofs.YtaooojjhlngcmaaGreatDoor
section
set_option maxRecDepth 100000
theorem en19 : Enters Tryz.prog 19 := enters_mk Tryz.func19 (by kernel_rfl) rfl
theorem en4 : Enters Tryz.prog 4 := enters_mk Tryz.func4 (by kernel_rfl) rfl
theorem en5 : Enters Tryz.prog 5 := enters_mk Tryz.func5 (by kernel_rfl) rfl
theorem en7 : Enters Tryz.prog 7 := enters_mk Tryz.func7 (by kernel_rfl) rfl
theorem en8 : Enters Tryz.prog 8 := enters_mk Tryz.func8 (by kernel_rfl) rfl
end
open Go.RowKit
theorem rprints_spec {X : PMap} {v : Value} {cs : List Con} (h : ConsRi X v cs) (hl : cs.length ≤ 40) (hw : wtC cs < 15000000) (hww : ∀ c ∈ cs, wtE c.ex < 900000) : Spec Tryz.prog 8 [v] X fun u _ => u = .string (if chkAll cs = 0 then ⟨(linesL cs).toArray⟩ else ⟨#[]⟩) := by
  obtain ⟨A, cp, hv⟩ : ∃ A cp, v = .slice A cs.length cp := by
    obtain ⟨rows, hr, hrl, _⟩ := h
    obtain ⟨A, cp, rfl⟩ := hr.form
    exact ⟨A, cp, by rw [hrl]⟩
  by_cases hc : chkAll cs = 0
  case neg =>
    subst hv
    refine Spec.enter Tryz.func8 rfl Tryz.ntmps8 rfl ?_
    intro w0 hw0
    refine T.seq ?_
    refine T.region ?_
    refine SL.y (op_assign rfl) rfl rfl ?_
    refine SL.nil ?_
    refine T.seq ?_
    refine T.seq ?_
    refine T.region ?_
    refine SL.y (op_move rfl) rfl rfl ?_
    refine SL.x (op_callF en19 (vs := [_]) rfl (rcheck_spec h hl hw hww)) rfl rfl ?_
    rintro _ _ X1 ⟨rfl, hX1, rfl⟩
    first | refine SL.y (op_neqT rfl rfl (by omega)) rfl rfl ?_ | refine SL.y (op_neqF rfl rfl (by omega)) rfl rfl ?_ | refine SL.y (op_neq rfl rfl) rfl rfl ?_
    refine SL.nil ?_
    refine T.condT rfl ?_
    refine T.seq ?_
    refine T.region ?_
    refine SL.y (op_assign rfl) rfl rfl ?_
    refine SL.nil ?_
    refine T.ret1 rfl (ResIs.tmp rfl) ?_
    rw [if_neg hc]
  have hz0 : chkCs [] cs = 0 := by
    unfold chkAll at hc
    split at hc
    · cases hc
    · split at hc
      · rename_i h2; exact absurd hc h2
      · rename_i h2; exact Decidable.not_not.1 h2
  have hh := h
  obtain ⟨rows, hr, hrl, hrow⟩ := h
  obtain ⟨A1, cp1, rfl⟩ := hr.form
  refine Spec.enter Tryz.func8 rfl Tryz.ntmps8 rfl ?_
  intro w0 hw0
  refine T.seq ?_
  refine T.region ?_
  refine SL.y (op_assign rfl) rfl rfl ?_
  refine SL.nil ?_
  refine T.seq ?_
  refine T.seq ?_
  refine T.region ?_
  refine SL.y (op_move rfl) rfl rfl ?_
  refine SL.x (op_callF en19 (vs := [_]) rfl (rcheck_spec hh hl hw hww)) rfl rfl ?_
  rintro _ _ X1 ⟨rfl, hX1, rfl⟩
  rw [hc]
  first | refine SL.y (op_neqT rfl rfl (by omega)) rfl rfl ?_ | refine SL.y (op_neqF rfl rfl (by omega)) rfl rfl ?_ | refine SL.y (op_neq rfl rfl) rfl rfl ?_
  refine SL.nil ?_
  refine T.condF rfl ?_
  refine T.skip ?_
  refine T.seq ?_
  refine T.region ?_
  refine SL.y (op_assign rfl) rfl rfl ?_
  refine SL.nil ?_
  refine T.seq ?_
  refine T.seq ?_
  refine T.region ?_
  refine SL.y (op_move rfl) rfl rfl ?_
  refine SL.y (op_lenS Tryz.underlying24 rfl) rfl rfl ?_
  refine SL.y (op_move (v := .int .i64 ((0 : Nat) : Int)) rfl) rfl rfl ?_
  refine SL.nil ?_
  refine T.block ?_
  refine T.loopW (fun m env own X' => ∃ i : Nat, m = rows.length - i ∧ i ≤ rows.length ∧ X1.le X' ∧ env = [(3, .string ⟨(linesL (cs.take i)).toArray⟩), (9, .slice A1 rows.length cp1), (10, .int .i64 (rows.length : Int)), (11, .int .i64 (i : Int))] ∧ own = []) rows.length ⟨0, by simp, by omega, PMap.le_refl _, rfl, rfl⟩ (by repeat (first | exact Sub.nil | refine Sub.cons rfl ?_)) ?_
  rintro m _ _ X2 ⟨i, rfl, hi, hX2, rfl, rfl⟩
  rcases Nat.lt_or_ge i rows.length with hil | hil
  · obtain ⟨r2, hr2⟩ : ∃ r2, rows[i]? = some r2 := ⟨_, List.getElem?_eq_getElem hil⟩
    obtain ⟨c, hc2⟩ : ∃ c, cs[i]? = some c := ⟨_, List.getElem?_eq_getElem (by omega)⟩
    have hmc := List.mem_of_getElem? hc2
    have hrc := hrow i c r2 hc2 hr2
    obtain ⟨bA, pre, rfl, hbA⟩ := hr.blk (by omega)
    have hrc0 := hrc
    obtain ⟨o8, n8, a8, b8, l8, c8, l9, c9, rfl⟩ := hrc.form
    obtain ⟨q1, q2, q3, q4⟩ := chkCs_mem hz0 c hmc
    have hts := take_snoc hc2
    have hll := linesL_len (cs := cs.take i) fun c hc => (chkCs_mem hz0 c (List.mem_of_mem_take hc)).2.2.1.2.1
    have hwt := wtC_take_le cs i
    have hti : (cs.take i).length ≤ 40 := by rw [List.length_take]; omega
    have hls := lineB_size (c := c) q3.2.1
    have hwe := hww c hmc
    have hsz : (⟨(linesL (cs.take i)).toArray⟩ : ByteArray).size = (linesL (cs.take i)).length := by show (linesL (cs.take i)).toArray.size = _; simp
    have hX12 := hX1.trans' hX2
    have hrl2 := rline_spec (hrc0.mono hX12) q1 q2 q3.2.1 hwe (chkE_node q4)
    try simp only [rc7i] at hrl2
    refine T.seq ?_
    refine T.region ?_
    first | refine SL.y (op_lssT rfl rfl (by omega)) rfl rfl ?_ | refine SL.y (op_lssF rfl rfl (by omega)) rfl rfl ?_ | refine SL.y (op_lss rfl rfl) rfl rfl ?_
    refine SL.nil ?_
    refine T.seq ?_
    refine T.condT rfl ?_
    refine T.skip ?_
    refine T.seq ?_
    refine T.block ?_
    refine T.seq ?_
    refine T.region ?_
    first | refine SL.y (op_indexN Tryz.underlying24 ty53 rfl rfl (by omega)) rfl rfl ?_ | refine SL.y (op_index Tryz.underlying24 ty53 rfl rfl (by omega) (by omega)) rfl rfl ?_
    refine SL.y (op_loadX (v := .agg #[.bool c.enf, .int .i64 (c.kind : Int), .string c.name, .int .i64 (o8 : Int), .int .i64 n8, .slice a8 l8 c8, .slice b8 l9 c9]) ty53 rfl (hbA.mono hX12) (row_read rc7i_len hr2 (by omega))) rfl rfl ?_
    refine SL.x (op_alloc z53) rfl rfl ?_
    rintro _ _ _ ⟨B5, rfl, rfl, rfl⟩
    refine SL.x (op_store ty53 rfl rfl (by repeat constructor) rfl rfl rfl) rfl rfl ?_
    rintro _ _ _ ⟨rfl, rfl⟩
    refine SL.nil ?_
    refine T.region ?_
    refine SL.y (op_move rfl) rfl rfl ?_
    first | refine SL.y (op_load ty53 rfl (by repeat constructor) rfl) rfl rfl ?_ | refine SL.y (op_loadX ty53 rfl (by assumption) rfl) rfl rfl ?_
    refine SL.x (op_callF en20 (vs := [_]) rfl (hrl2)) rfl rfl ?_
    rintro _ _ X6 ⟨rfl, hX6, rfl⟩
    refine SL.y (op_addStr rfl rfl (by first | omega | (simp only [ByteArray.size_append]; omega))) rfl rfl ?_
    refine SL.y (op_assign rfl) rfl rfl ?_
    refine SL.nil ?_
    refine T.blk ?_
    refine T.region ?_
    first | refine SL.y (op_addN (q := 1) rfl rfl (by omega)) rfl rfl ?_ | refine SL.y (op_add rfl rfl (by omega) (by omega)) rfl rfl ?_ | refine SL.y (op_addW rfl rfl) rfl rfl ?_
    refine SL.y (op_move rfl) rfl rfl ?_
    refine SL.nil ?_
    refine T.drop B5 (by repeat constructor) ?_
    have e : (⟨(linesL (cs.take i)).toArray⟩ : ByteArray) ++ lineB c = ⟨(linesL (cs.take (i + 1))).toArray⟩ := by
      apply ByteArray.ext
      rw [hts, linesL_snoc]
      simp
    rw [e]
    exact T.backW (rows.length - (i + 1)) (by omega) ⟨i + 1, rfl, by omega, hX2.trans' hX6, rfl, rfl⟩ (by repeat (first | exact Sub.nil | refine Sub.cons rfl ?_))
  · obtain rfl : i = rows.length := by omega
    rw [show cs.take rows.length = cs from List.take_of_length_le (by omega)]
    refine T.seq ?_
    refine T.region ?_
    first | refine SL.y (op_lssT rfl rfl (by omega)) rfl rfl ?_ | refine SL.y (op_lssF rfl rfl (by omega)) rfl rfl ?_ | refine SL.y (op_lss rfl rfl) rfl rfl ?_
    refine SL.nil ?_
    refine T.seq ?_
    refine T.condF rfl ?_
    refine T.exit (T.exitCode (T.exitCut (T.exitBlk ?_)))
    refine T.seq ?_
    refine T.region ?_
    refine SL.y (op_move rfl) rfl rfl ?_
    refine SL.y (op_assign rfl) rfl rfl ?_
    refine SL.nil ?_
    refine T.ret1 rfl (ResIs.tmp rfl) ?_
    rw [if_pos rfl]
theorem sLines_spec {X : PMap} (hP : Pow10 X) {v : Value} {l : List Itm} (h : ItsR X v l) (hok : ∀ x ∈ l, itOk x) : Spec Tryz.prog 3 [v] X fun u _ => u = .bool true := by
  have hl := cons_len l
  have hw := cons_wt l
  have hwC := cons_wtC l
  have hck := cons_ok hok
  refine Spec.enter Tryz.func3 rfl Tryz.ntmps3 rfl ?_
  intro w0 hw0
  refine T.seq ?_
  refine T.region ?_
  refine SL.y (op_assign rfl) rfl rfl ?_
  refine SL.nil ?_
  refine T.seq ?_
  refine T.seq ?_
  refine T.region ?_
  refine SL.x (op_callF en4 (vs := []) rfl (awake16_spec)) rfl rfl ?_
  rintro _ _ X0 ⟨rfl, hX0, rfl⟩
  refine SL.y (op_not rfl) rfl rfl ?_
  refine SL.nil ?_
  refine T.condF rfl ?_
  refine T.skip ?_
  refine T.seq ?_
  refine T.region ?_
  refine SL.y (op_move rfl) rfl rfl ?_
  refine SL.x (op_callF en5 (vs := [_]) rfl (ball_spec (h.mono hX0) hok)) rfl rfl ?_
  rintro v1 _ X1 ⟨rfl, hX1, h1⟩
  generalize consOf l = cs at *
  refine SL.y (op_assign rfl) rfl rfl ?_
  refine SL.nil ?_
  refine T.seq ?_
  refine T.region ?_
  refine SL.y (op_move rfl) rfl rfl ?_
  refine SL.x (op_callF en7 (vs := [_]) rfl (set16_spec h1 (by omega) hck)) rfl rfl ?_
  rintro v2 _ X2 ⟨rfl, hX2, h2⟩
  refine SL.x (op_callF en6 (vs := [_]) rfl (cprintA_spec (((hP.mono hX0).mono hX1).mono hX2) h2 (by omega) hwC (fun c hc => Nat.lt_trans (hw c hc) (by omega)))) rfl rfl ?_
  rintro _ _ X3 ⟨rfl, hX3, rfl⟩
  refine SL.y (op_move rfl) rfl rfl ?_
  refine SL.x (op_callF en8 (vs := [_]) rfl (rprints_spec ((h1.mono hX2).mono hX3) (by omega) hwC (fun c hc => Nat.lt_trans (hw c hc) (by omega)))) rfl rfl ?_
  rintro _ _ X4 ⟨rfl, hX4, rfl⟩
  refine SL.y (op_eqlStrD rfl rfl) rfl rfl ?_
  refine SL.y (op_assign rfl) rfl rfl ?_
  refine SL.nil ?_
  refine T.ret1 rfl (ResIs.tmp rfl) ?_
  rw [decide_eq_true rfl]
end Go.Proofs.YtaooojjhlngcmaaGreatDoor
namespace Go.Proofs.YtaooojjhlngcmaaGreatDoor
open Go.RowKit
theorem gPow : Tryz.prog.globalNamed "internal/strconv.uint64pow10" = some 0 := by kernel_rfl
theorem gPowT : (Tryz.prog.globals[0]?).map (·.type) = some 127 := by kernel_rfl
theorem cells20 : Tryz.prog.cellsOf 127 = 20 := by kernel_rfl
theorem cellsU64 : Tryz.prog.cellsOf 109 = 1 := by kernel_rfl
theorem pow_of {W : World} {x y : String × DataW Unit} (h : laidMet Tryz.prog [x, y, ("internal/strconv.uint64pow10", Rows.laid_internal_strconv_uint64pow10)] W) : Pow10 (heapX W) := by
  have ht : Lib.TabIs Tryz.prog W "internal/strconv.uint64pow10" .u64 Lib.pow10Tab := Lib.tabIs_of_head gPow gPowT Tryz.underlying127 Tryz.underlying109 cellsU64 cells20 h.tail.tail
  intro w hw
  unfold Lib.TabIs World.var? at ht ⊢
  rw [gPow] at ht ⊢
  simp only [Option.bind_some] at ht ⊢
  cases hg : W.heap[0]? with
  | none => rw [hg] at ht; cases ht
  | some o =>
    rw [hg] at ht
    rw [hw 0 o hg]
    exact ht
end Go.Proofs.YtaooojjhlngcmaaGreatDoor
