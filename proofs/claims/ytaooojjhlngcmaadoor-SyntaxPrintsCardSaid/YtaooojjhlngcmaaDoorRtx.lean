/- The text of an expression, the specification's. -/
import Derived.Test.YtaooojjhlngcmaaDoorRnode
import Derived.Test.YtaooojjhlngcmaaDoorText
import Derived.Test.YtaooojjhlngcmaaDoorStr2
namespace Go.Proofs.YtaooojjhlngcmaaDoor
section
set_option maxRecDepth 100000
theorem bs5 : ∃ i z, Tryd.prog.info? 5 = some i ∧ i.size = 1 ∧ i.zero = some z ∧ z.cells = ([.int .u8 0] : List Value).toArray := bs_of (by kernel_rfl)
theorem en41 : Enters Tryd.prog 41 := enters_mk Tryd.func41 (by kernel_rfl) rfl
theorem en54 : Enters Tryd.prog 54 := enters_mk Tryd.func54 (by kernel_rfl) rfl
theorem en86 : Enters Tryd.prog 86 := enters_mk Tryd.func86 (by kernel_rfl) rfl
theorem en87 : Enters Tryd.prog 87 := enters_mk Tryd.func87 (by kernel_rfl) rfl
theorem en88 : Enters Tryd.prog 88 := enters_mk Tryd.func88 (by kernel_rfl) rfl
end
open Go.RowKit
theorem binds_spec {X : PMap} {op : Nat} : Spec Tryd.prog 88 [.int .i64 (op : Int)] X fun u _ => u = .int .i64 (strN op : Int) := by
  by_cases h1 : op = 10
  · refine Spec.enter Tryd.func88 rfl Tryd.ntmps88 rfl ?_
    intro w0 hw0
    refine T.seq ?_
    refine T.region ?_
    refine SL.y (op_assign (v := .int .i64 ((0 : Nat) : Int)) rfl) rfl rfl ?_
    refine SL.nil ?_
    refine T.seq ?_
    refine T.block ?_
    refine T.seq ?_
    refine T.region ?_
    refine SL.y (op_move rfl) rfl rfl ?_
    first | refine SL.y (op_eqlT rfl rfl (by omega)) rfl rfl ?_ | refine SL.y (op_eqlF rfl rfl (by omega)) rfl rfl ?_ | refine SL.y (op_eql rfl rfl) rfl rfl ?_
    refine SL.y (op_assign rfl) rfl rfl ?_
    refine SL.nil ?_
    refine T.condT rfl ?_
    refine T.seq ?_
    refine T.region ?_
    refine SL.y (op_assign (v := .int .i64 ((1 : Nat) : Int)) rfl) rfl rfl ?_
    refine SL.nil ?_
    -- ret
    refine T.ret1 rfl (ResIs.tmp rfl) ?_
    rw [strN, if_pos h1]
  by_cases h2 : op = 9
  · refine Spec.enter Tryd.func88 rfl Tryd.ntmps88 rfl ?_
    intro w0 hw0
    refine T.seq ?_
    refine T.region ?_
    refine SL.y (op_assign (v := .int .i64 ((0 : Nat) : Int)) rfl) rfl rfl ?_
    refine SL.nil ?_
    refine T.seq ?_
    refine T.block ?_
    refine T.seq ?_
    refine T.region ?_
    refine SL.y (op_move rfl) rfl rfl ?_
    first | refine SL.y (op_eqlT rfl rfl (by omega)) rfl rfl ?_ | refine SL.y (op_eqlF rfl rfl (by omega)) rfl rfl ?_ | refine SL.y (op_eql rfl rfl) rfl rfl ?_
    refine SL.y (op_assign rfl) rfl rfl ?_
    refine SL.nil ?_
    refine T.condF rfl ?_
    refine T.seq ?_
    refine T.region ?_
    refine SL.y (op_move rfl) rfl rfl ?_
    first | refine SL.y (op_eqlT rfl rfl (by omega)) rfl rfl ?_ | refine SL.y (op_eqlF rfl rfl (by omega)) rfl rfl ?_ | refine SL.y (op_eql rfl rfl) rfl rfl ?_
    refine SL.y (op_assign rfl) rfl rfl ?_
    refine SL.nil ?_
    refine T.condT rfl ?_
    refine T.seq ?_
    refine T.region ?_
    refine SL.y (op_assign (v := .int .i64 ((2 : Nat) : Int)) rfl) rfl rfl ?_
    refine SL.nil ?_
    -- ret
    refine T.ret1 rfl (ResIs.tmp rfl) ?_
    rw [strN, if_neg h1, if_pos h2]
  by_cases h3 : op = 8
  · refine Spec.enter Tryd.func88 rfl Tryd.ntmps88 rfl ?_
    intro w0 hw0
    refine T.seq ?_
    refine T.region ?_
    refine SL.y (op_assign (v := .int .i64 ((0 : Nat) : Int)) rfl) rfl rfl ?_
    refine SL.nil ?_
    refine T.seq ?_
    refine T.block ?_
    refine T.seq ?_
    refine T.region ?_
    refine SL.y (op_move rfl) rfl rfl ?_
    first | refine SL.y (op_eqlT rfl rfl (by omega)) rfl rfl ?_ | refine SL.y (op_eqlF rfl rfl (by omega)) rfl rfl ?_ | refine SL.y (op_eql rfl rfl) rfl rfl ?_
    refine SL.y (op_assign rfl) rfl rfl ?_
    refine SL.nil ?_
    refine T.condF rfl ?_
    refine T.seq ?_
    refine T.region ?_
    refine SL.y (op_move rfl) rfl rfl ?_
    first | refine SL.y (op_eqlT rfl rfl (by omega)) rfl rfl ?_ | refine SL.y (op_eqlF rfl rfl (by omega)) rfl rfl ?_ | refine SL.y (op_eql rfl rfl) rfl rfl ?_
    refine SL.y (op_assign rfl) rfl rfl ?_
    refine SL.nil ?_
    refine T.condF rfl ?_
    refine T.seq ?_
    refine T.region ?_
    refine SL.y (op_move rfl) rfl rfl ?_
    first | refine SL.y (op_eqlT rfl rfl (by omega)) rfl rfl ?_ | refine SL.y (op_eqlF rfl rfl (by omega)) rfl rfl ?_ | refine SL.y (op_eql rfl rfl) rfl rfl ?_
    refine SL.y (op_assign rfl) rfl rfl ?_
    refine SL.nil ?_
    refine T.condT rfl ?_
    refine T.seq ?_
    refine T.region ?_
    refine SL.y (op_assign (v := .int .i64 ((3 : Nat) : Int)) rfl) rfl rfl ?_
    refine SL.nil ?_
    -- ret
    refine T.ret1 rfl (ResIs.tmp rfl) ?_
    rw [strN, if_neg h1, if_neg h2, if_pos h3]
  by_cases h4 : op = 7
  · refine Spec.enter Tryd.func88 rfl Tryd.ntmps88 rfl ?_
    intro w0 hw0
    refine T.seq ?_
    refine T.region ?_
    refine SL.y (op_assign (v := .int .i64 ((0 : Nat) : Int)) rfl) rfl rfl ?_
    refine SL.nil ?_
    refine T.seq ?_
    refine T.block ?_
    refine T.seq ?_
    refine T.region ?_
    refine SL.y (op_move rfl) rfl rfl ?_
    first | refine SL.y (op_eqlT rfl rfl (by omega)) rfl rfl ?_ | refine SL.y (op_eqlF rfl rfl (by omega)) rfl rfl ?_ | refine SL.y (op_eql rfl rfl) rfl rfl ?_
    refine SL.y (op_assign rfl) rfl rfl ?_
    refine SL.nil ?_
    refine T.condF rfl ?_
    refine T.seq ?_
    refine T.region ?_
    refine SL.y (op_move rfl) rfl rfl ?_
    first | refine SL.y (op_eqlT rfl rfl (by omega)) rfl rfl ?_ | refine SL.y (op_eqlF rfl rfl (by omega)) rfl rfl ?_ | refine SL.y (op_eql rfl rfl) rfl rfl ?_
    refine SL.y (op_assign rfl) rfl rfl ?_
    refine SL.nil ?_
    refine T.condF rfl ?_
    refine T.seq ?_
    refine T.region ?_
    refine SL.y (op_move rfl) rfl rfl ?_
    first | refine SL.y (op_eqlT rfl rfl (by omega)) rfl rfl ?_ | refine SL.y (op_eqlF rfl rfl (by omega)) rfl rfl ?_ | refine SL.y (op_eql rfl rfl) rfl rfl ?_
    refine SL.y (op_assign rfl) rfl rfl ?_
    refine SL.nil ?_
    refine T.condF rfl ?_
    refine T.seq ?_
    refine T.region ?_
    refine SL.y (op_move rfl) rfl rfl ?_
    first | refine SL.y (op_eqlT rfl rfl (by omega)) rfl rfl ?_ | refine SL.y (op_eqlF rfl rfl (by omega)) rfl rfl ?_ | refine SL.y (op_eql rfl rfl) rfl rfl ?_
    refine SL.y (op_assign rfl) rfl rfl ?_
    refine SL.nil ?_
    refine T.condT rfl ?_
    refine T.seq ?_
    refine T.region ?_
    refine SL.y (op_assign (v := .int .i64 ((4 : Nat) : Int)) rfl) rfl rfl ?_
    refine SL.nil ?_
    -- ret
    refine T.ret1 rfl (ResIs.tmp rfl) ?_
    rw [strN, if_neg h1, if_neg h2, if_neg h3, if_pos h4]
  by_cases h5 : 11 ≤ op ∧ op ≤ 15
  · obtain ⟨g1, g2⟩ := h5
    refine Spec.enter Tryd.func88 rfl Tryd.ntmps88 rfl ?_
    intro w0 hw0
    refine T.seq ?_
    refine T.region ?_
    refine SL.y (op_assign (v := .int .i64 ((0 : Nat) : Int)) rfl) rfl rfl ?_
    refine SL.nil ?_
    refine T.seq ?_
    refine T.block ?_
    refine T.seq ?_
    refine T.region ?_
    refine SL.y (op_move rfl) rfl rfl ?_
    first | refine SL.y (op_eqlT rfl rfl (by omega)) rfl rfl ?_ | refine SL.y (op_eqlF rfl rfl (by omega)) rfl rfl ?_ | refine SL.y (op_eql rfl rfl) rfl rfl ?_
    refine SL.y (op_assign rfl) rfl rfl ?_
    refine SL.nil ?_
    refine T.condF rfl ?_
    refine T.seq ?_
    refine T.region ?_
    refine SL.y (op_move rfl) rfl rfl ?_
    first | refine SL.y (op_eqlT rfl rfl (by omega)) rfl rfl ?_ | refine SL.y (op_eqlF rfl rfl (by omega)) rfl rfl ?_ | refine SL.y (op_eql rfl rfl) rfl rfl ?_
    refine SL.y (op_assign rfl) rfl rfl ?_
    refine SL.nil ?_
    refine T.condF rfl ?_
    refine T.seq ?_
    refine T.region ?_
    refine SL.y (op_move rfl) rfl rfl ?_
    first | refine SL.y (op_eqlT rfl rfl (by omega)) rfl rfl ?_ | refine SL.y (op_eqlF rfl rfl (by omega)) rfl rfl ?_ | refine SL.y (op_eql rfl rfl) rfl rfl ?_
    refine SL.y (op_assign rfl) rfl rfl ?_
    refine SL.nil ?_
    refine T.condF rfl ?_
    refine T.seq ?_
    refine T.region ?_
    refine SL.y (op_move rfl) rfl rfl ?_
    first | refine SL.y (op_eqlT rfl rfl (by omega)) rfl rfl ?_ | refine SL.y (op_eqlF rfl rfl (by omega)) rfl rfl ?_ | refine SL.y (op_eql rfl rfl) rfl rfl ?_
    refine SL.y (op_assign rfl) rfl rfl ?_
    refine SL.nil ?_
    refine T.condF rfl ?_
    refine T.seq ?_
    refine T.region ?_
    refine SL.y (op_move rfl) rfl rfl ?_
    first | refine SL.y (op_geqT rfl rfl (by omega)) rfl rfl ?_ | refine SL.y (op_geqF rfl rfl (by omega)) rfl rfl ?_ | refine SL.y (op_geq rfl rfl) rfl rfl ?_
    refine SL.y (op_move rfl) rfl rfl ?_
    first | refine SL.skip rfl rfl ?_ | refine SL.y (op_move rfl) rfl rfl ?_
    first | refine SL.skip rfl rfl ?_ | refine SL.y (op_leqT rfl rfl (by omega)) rfl rfl ?_ | refine SL.y (op_leqF rfl rfl (by omega)) rfl rfl ?_ | refine SL.y (op_leq rfl rfl) rfl rfl ?_
    first | refine SL.y (op_pickT rfl rfl) rfl rfl ?_ | refine SL.y (op_pickF rfl rfl) rfl rfl ?_ | refine SL.y (op_pickB rfl rfl rfl) rfl rfl ?_
    refine SL.y (op_assign rfl) rfl rfl ?_
    refine SL.nil ?_
    refine T.condT rfl ?_
    refine T.seq ?_
    refine T.region ?_
    refine SL.y (op_assign (v := .int .i64 ((5 : Nat) : Int)) rfl) rfl rfl ?_
    refine SL.nil ?_
    -- ret
    refine T.ret1 rfl (ResIs.tmp rfl) ?_
    rw [strN, if_neg h1, if_neg h2, if_neg h3, if_neg h4, if_pos ⟨g1, g2⟩]
  by_cases h6 : op = 16
  · refine Spec.enter Tryd.func88 rfl Tryd.ntmps88 rfl ?_
    intro w0 hw0
    refine T.seq ?_
    refine T.region ?_
    refine SL.y (op_assign (v := .int .i64 ((0 : Nat) : Int)) rfl) rfl rfl ?_
    refine SL.nil ?_
    refine T.seq ?_
    refine T.block ?_
    refine T.seq ?_
    refine T.region ?_
    refine SL.y (op_move rfl) rfl rfl ?_
    first | refine SL.y (op_eqlT rfl rfl (by omega)) rfl rfl ?_ | refine SL.y (op_eqlF rfl rfl (by omega)) rfl rfl ?_ | refine SL.y (op_eql rfl rfl) rfl rfl ?_
    refine SL.y (op_assign rfl) rfl rfl ?_
    refine SL.nil ?_
    refine T.condF rfl ?_
    refine T.seq ?_
    refine T.region ?_
    refine SL.y (op_move rfl) rfl rfl ?_
    first | refine SL.y (op_eqlT rfl rfl (by omega)) rfl rfl ?_ | refine SL.y (op_eqlF rfl rfl (by omega)) rfl rfl ?_ | refine SL.y (op_eql rfl rfl) rfl rfl ?_
    refine SL.y (op_assign rfl) rfl rfl ?_
    refine SL.nil ?_
    refine T.condF rfl ?_
    refine T.seq ?_
    refine T.region ?_
    refine SL.y (op_move rfl) rfl rfl ?_
    first | refine SL.y (op_eqlT rfl rfl (by omega)) rfl rfl ?_ | refine SL.y (op_eqlF rfl rfl (by omega)) rfl rfl ?_ | refine SL.y (op_eql rfl rfl) rfl rfl ?_
    refine SL.y (op_assign rfl) rfl rfl ?_
    refine SL.nil ?_
    refine T.condF rfl ?_
    refine T.seq ?_
    refine T.region ?_
    refine SL.y (op_move rfl) rfl rfl ?_
    first | refine SL.y (op_eqlT rfl rfl (by omega)) rfl rfl ?_ | refine SL.y (op_eqlF rfl rfl (by omega)) rfl rfl ?_ | refine SL.y (op_eql rfl rfl) rfl rfl ?_
    refine SL.y (op_assign rfl) rfl rfl ?_
    refine SL.nil ?_
    refine T.condF rfl ?_
    refine T.seq ?_
    refine T.region ?_
    refine SL.y (op_move rfl) rfl rfl ?_
    first | refine SL.y (op_geqT rfl rfl (by omega)) rfl rfl ?_ | refine SL.y (op_geqF rfl rfl (by omega)) rfl rfl ?_ | refine SL.y (op_geq rfl rfl) rfl rfl ?_
    refine SL.y (op_move rfl) rfl rfl ?_
    first | refine SL.skip rfl rfl ?_ | refine SL.y (op_move rfl) rfl rfl ?_
    first | refine SL.skip rfl rfl ?_ | refine SL.y (op_leqT rfl rfl (by omega)) rfl rfl ?_ | refine SL.y (op_leqF rfl rfl (by omega)) rfl rfl ?_ | refine SL.y (op_leq rfl rfl) rfl rfl ?_
    first | refine SL.y (op_pickT rfl rfl) rfl rfl ?_ | refine SL.y (op_pickF rfl rfl) rfl rfl ?_ | refine SL.y (op_pickB rfl rfl rfl) rfl rfl ?_
    refine SL.y (op_assign rfl) rfl rfl ?_
    refine SL.nil ?_
    refine T.condF rfl ?_
    refine T.seq ?_
    refine T.region ?_
    refine SL.y (op_move rfl) rfl rfl ?_
    first | refine SL.y (op_eqlT rfl rfl (by omega)) rfl rfl ?_ | refine SL.y (op_eqlF rfl rfl (by omega)) rfl rfl ?_ | refine SL.y (op_eql rfl rfl) rfl rfl ?_
    refine SL.y (op_assign rfl) rfl rfl ?_
    refine SL.nil ?_
    refine T.condT rfl ?_
    refine T.seq ?_
    refine T.region ?_
    refine SL.y (op_assign (v := .int .i64 ((6 : Nat) : Int)) rfl) rfl rfl ?_
    refine SL.nil ?_
    -- ret
    refine T.ret1 rfl (ResIs.tmp rfl) ?_
    rw [strN, if_neg h1, if_neg h2, if_neg h3, if_neg h4, if_neg h5, if_pos h6]
  by_cases h7 : 11 ≤ op
  · have h8 : ¬op ≤ 15 := fun h => h5 ⟨h7, h⟩
    refine Spec.enter Tryd.func88 rfl Tryd.ntmps88 rfl ?_
    intro w0 hw0
    refine T.seq ?_
    refine T.region ?_
    refine SL.y (op_assign (v := .int .i64 ((0 : Nat) : Int)) rfl) rfl rfl ?_
    refine SL.nil ?_
    refine T.seq ?_
    refine T.block ?_
    refine T.seq ?_
    refine T.region ?_
    refine SL.y (op_move rfl) rfl rfl ?_
    first | refine SL.y (op_eqlT rfl rfl (by omega)) rfl rfl ?_ | refine SL.y (op_eqlF rfl rfl (by omega)) rfl rfl ?_ | refine SL.y (op_eql rfl rfl) rfl rfl ?_
    refine SL.y (op_assign rfl) rfl rfl ?_
    refine SL.nil ?_
    refine T.condF rfl ?_
    refine T.seq ?_
    refine T.region ?_
    refine SL.y (op_move rfl) rfl rfl ?_
    first | refine SL.y (op_eqlT rfl rfl (by omega)) rfl rfl ?_ | refine SL.y (op_eqlF rfl rfl (by omega)) rfl rfl ?_ | refine SL.y (op_eql rfl rfl) rfl rfl ?_
    refine SL.y (op_assign rfl) rfl rfl ?_
    refine SL.nil ?_
    refine T.condF rfl ?_
    refine T.seq ?_
    refine T.region ?_
    refine SL.y (op_move rfl) rfl rfl ?_
    first | refine SL.y (op_eqlT rfl rfl (by omega)) rfl rfl ?_ | refine SL.y (op_eqlF rfl rfl (by omega)) rfl rfl ?_ | refine SL.y (op_eql rfl rfl) rfl rfl ?_
    refine SL.y (op_assign rfl) rfl rfl ?_
    refine SL.nil ?_
    refine T.condF rfl ?_
    refine T.seq ?_
    refine T.region ?_
    refine SL.y (op_move rfl) rfl rfl ?_
    first | refine SL.y (op_eqlT rfl rfl (by omega)) rfl rfl ?_ | refine SL.y (op_eqlF rfl rfl (by omega)) rfl rfl ?_ | refine SL.y (op_eql rfl rfl) rfl rfl ?_
    refine SL.y (op_assign rfl) rfl rfl ?_
    refine SL.nil ?_
    refine T.condF rfl ?_
    refine T.seq ?_
    refine T.region ?_
    refine SL.y (op_move rfl) rfl rfl ?_
    first | refine SL.y (op_geqT rfl rfl (by omega)) rfl rfl ?_ | refine SL.y (op_geqF rfl rfl (by omega)) rfl rfl ?_ | refine SL.y (op_geq rfl rfl) rfl rfl ?_
    refine SL.y (op_move rfl) rfl rfl ?_
    first | refine SL.skip rfl rfl ?_ | refine SL.y (op_move rfl) rfl rfl ?_
    first | refine SL.skip rfl rfl ?_ | refine SL.y (op_leqT rfl rfl (by omega)) rfl rfl ?_ | refine SL.y (op_leqF rfl rfl (by omega)) rfl rfl ?_ | refine SL.y (op_leq rfl rfl) rfl rfl ?_
    first | refine SL.y (op_pickT rfl rfl) rfl rfl ?_ | refine SL.y (op_pickF rfl rfl) rfl rfl ?_ | refine SL.y (op_pickB rfl rfl rfl) rfl rfl ?_
    refine SL.y (op_assign rfl) rfl rfl ?_
    refine SL.nil ?_
    refine T.condF rfl ?_
    refine T.seq ?_
    refine T.region ?_
    refine SL.y (op_move rfl) rfl rfl ?_
    first | refine SL.y (op_eqlT rfl rfl (by omega)) rfl rfl ?_ | refine SL.y (op_eqlF rfl rfl (by omega)) rfl rfl ?_ | refine SL.y (op_eql rfl rfl) rfl rfl ?_
    refine SL.y (op_assign rfl) rfl rfl ?_
    refine SL.nil ?_
    refine T.condF rfl ?_
    refine T.skip ?_
    refine T.blk ?_
    refine T.seq ?_
    refine T.region ?_
    refine SL.y (op_assign (v := .int .i64 ((7 : Nat) : Int)) rfl) rfl rfl ?_
    refine SL.nil ?_
    -- ret
    refine T.ret1 rfl (ResIs.tmp rfl) ?_
    rw [strN, if_neg h1, if_neg h2, if_neg h3, if_neg h4, if_neg h5, if_neg h6]
  · refine Spec.enter Tryd.func88 rfl Tryd.ntmps88 rfl ?_
    intro w0 hw0
    refine T.seq ?_
    refine T.region ?_
    refine SL.y (op_assign (v := .int .i64 ((0 : Nat) : Int)) rfl) rfl rfl ?_
    refine SL.nil ?_
    refine T.seq ?_
    refine T.block ?_
    refine T.seq ?_
    refine T.region ?_
    refine SL.y (op_move rfl) rfl rfl ?_
    first | refine SL.y (op_eqlT rfl rfl (by omega)) rfl rfl ?_ | refine SL.y (op_eqlF rfl rfl (by omega)) rfl rfl ?_ | refine SL.y (op_eql rfl rfl) rfl rfl ?_
    refine SL.y (op_assign rfl) rfl rfl ?_
    refine SL.nil ?_
    refine T.condF rfl ?_
    refine T.seq ?_
    refine T.region ?_
    refine SL.y (op_move rfl) rfl rfl ?_
    first | refine SL.y (op_eqlT rfl rfl (by omega)) rfl rfl ?_ | refine SL.y (op_eqlF rfl rfl (by omega)) rfl rfl ?_ | refine SL.y (op_eql rfl rfl) rfl rfl ?_
    refine SL.y (op_assign rfl) rfl rfl ?_
    refine SL.nil ?_
    refine T.condF rfl ?_
    refine T.seq ?_
    refine T.region ?_
    refine SL.y (op_move rfl) rfl rfl ?_
    first | refine SL.y (op_eqlT rfl rfl (by omega)) rfl rfl ?_ | refine SL.y (op_eqlF rfl rfl (by omega)) rfl rfl ?_ | refine SL.y (op_eql rfl rfl) rfl rfl ?_
    refine SL.y (op_assign rfl) rfl rfl ?_
    refine SL.nil ?_
    refine T.condF rfl ?_
    refine T.seq ?_
    refine T.region ?_
    refine SL.y (op_move rfl) rfl rfl ?_
    first | refine SL.y (op_eqlT rfl rfl (by omega)) rfl rfl ?_ | refine SL.y (op_eqlF rfl rfl (by omega)) rfl rfl ?_ | refine SL.y (op_eql rfl rfl) rfl rfl ?_
    refine SL.y (op_assign rfl) rfl rfl ?_
    refine SL.nil ?_
    refine T.condF rfl ?_
    refine T.seq ?_
    refine T.region ?_
    refine SL.y (op_move rfl) rfl rfl ?_
    first | refine SL.y (op_geqT rfl rfl (by omega)) rfl rfl ?_ | refine SL.y (op_geqF rfl rfl (by omega)) rfl rfl ?_ | refine SL.y (op_geq rfl rfl) rfl rfl ?_
    refine SL.y (op_move rfl) rfl rfl ?_
    first | refine SL.skip rfl rfl ?_ | refine SL.y (op_move rfl) rfl rfl ?_
    first | refine SL.skip rfl rfl ?_ | refine SL.y (op_leqT rfl rfl (by omega)) rfl rfl ?_ | refine SL.y (op_leqF rfl rfl (by omega)) rfl rfl ?_ | refine SL.y (op_leq rfl rfl) rfl rfl ?_
    first | refine SL.y (op_pickT rfl rfl) rfl rfl ?_ | refine SL.y (op_pickF rfl rfl) rfl rfl ?_ | refine SL.y (op_pickB rfl rfl rfl) rfl rfl ?_
    refine SL.y (op_assign rfl) rfl rfl ?_
    refine SL.nil ?_
    refine T.condF rfl ?_
    refine T.seq ?_
    refine T.region ?_
    refine SL.y (op_move rfl) rfl rfl ?_
    first | refine SL.y (op_eqlT rfl rfl (by omega)) rfl rfl ?_ | refine SL.y (op_eqlF rfl rfl (by omega)) rfl rfl ?_ | refine SL.y (op_eql rfl rfl) rfl rfl ?_
    refine SL.y (op_assign rfl) rfl rfl ?_
    refine SL.nil ?_
    refine T.condF rfl ?_
    refine T.skip ?_
    refine T.blk ?_
    refine T.seq ?_
    refine T.region ?_
    refine SL.y (op_assign (v := .int .i64 ((7 : Nat) : Int)) rfl) rfl rfl ?_
    refine SL.nil ?_
    -- ret
    refine T.ret1 rfl (ResIs.tmp rfl) ?_
    rw [strN, if_neg h1, if_neg h2, if_neg h3, if_neg h4, if_neg h5, if_neg h6]
theorem nil_bytes (s : ByteArray) : (⟨#[]⟩ : ByteArray) ++ s = s := by
  apply ByteArray.ext
  simp
theorem bytes_nil (s : ByteArray) : s ++ (⟨#[]⟩ : ByteArray) = s := by
  apply ByteArray.ext
  simp
theorem joinG_snoc : ∀ (l : List ByteArray) (s : ByteArray), l ≠ [] → joinG (l ++ [s]) = joinG l ++ [44, 32] ++ s.data.toList
  | a :: l, s, _ => by simp [joinG]
theorem joinB_snoc (l : List ByteArray) (s : ByteArray) (h : l ≠ []) : joinB (l ++ [s]) = joinB l ++ ⟨#[44, 32]⟩ ++ s := by
  apply ByteArray.ext
  simp [joinB, joinG_snoc l s h]
theorem joinB_one (s : ByteArray) : joinB [s] = ⟨#[]⟩ ++ s := by
  apply ByteArray.ext
  simp [joinB, joinG]
theorem wtS_take (l : List ByteArray) (i : Nat) : wtS (l.take i) ≤ wtS l := by
  have : wtS (l.take i ++ l.drop i) = wtS (l.take i) + wtS (l.drop i) := by simp only [wtS, List.map_append, List.sum_append]
  rw [List.take_append_drop] at this; omega
theorem joined_spec {X : PMap} {v : Value} {l : List ByteArray} (h : RowR strC X v l) (hl : wtS l < 1000000) : Spec Tryd.prog 86 [v] X fun u _ => u = .string (joinB l) := by
  obtain ⟨A, cp, rfl⟩ := h.form
  have hmx : maxLen = 9223372036854775807 := rfl
  have hln := wtS_len l
  have k1 : (⟨#[44, 32]⟩ : ByteArray).size = 2 := rfl
  refine Spec.enter Tryd.func86 rfl Tryd.ntmps86 rfl ?_
  intro w0 hw0
  refine T.seq ?_
  refine T.region ?_
  refine SL.y (op_assign rfl) rfl rfl ?_
  refine SL.nil ?_
  refine T.seq ?_
  refine T.region ?_
  refine SL.y (op_assign rfl) rfl rfl ?_
  refine SL.nil ?_
  refine T.seq ?_
  refine T.seq ?_
  refine T.region ?_
  refine SL.y (op_move rfl) rfl rfl ?_
  refine SL.y (op_lenS Tryd.underlying24 rfl) rfl rfl ?_
  refine SL.y (op_move (v := .int .i64 ((0 : Nat) : Int)) rfl) rfl rfl ?_
  refine SL.nil ?_
  refine T.block ?_
  -- loop live [2, 3, 6, 7, 8]
  refine T.loopW (fun m env own X' => ∃ i : Nat, m = l.length - i ∧ i ≤ l.length ∧ X.le X' ∧ env = [(3, .string (joinB (l.take i))), (6, .slice A l.length cp), (7, .int .i64 (l.length : Int)), (8, .int .i64 (i : Int))] ∧ own = []) l.length ⟨0, by simp, by omega, PMap.le_refl _, rfl, rfl⟩ (by repeat (first | exact Sub.nil | refine Sub.cons rfl ?_)) ?_
  rintro m _ _ X1 ⟨i, rfl, hi, hX1, rfl, rfl⟩
  rcases Nat.lt_or_ge i l.length with hil | hil
  · obtain ⟨x, hx⟩ : ∃ x, l[i]? = some x := ⟨_, List.getElem?_eq_getElem hil⟩
    obtain ⟨b, pre, rfl, hB⟩ := h.blk (by omega)
    have hts := take_snoc hx
    have hj := joinB_size (l.take i)
    have hw := wtS_take l i
    have hxs := wtS_mem (List.mem_of_getElem? hx)
    have k0 : (⟨#[]⟩ : ByteArray).size = 0 := rfl
    rcases Nat.eq_zero_or_pos i with h0 | h0
    · subst h0
      rw [show l.take 0 = [] from rfl, show joinB [] = ⟨#[]⟩ from rfl]
      rw [show l.take 0 = [] from rfl, List.nil_append] at hts
      refine T.seq ?_
      refine T.region ?_
      first | refine SL.y (op_lssT rfl rfl (by omega)) rfl rfl ?_ | refine SL.y (op_lssF rfl rfl (by omega)) rfl rfl ?_ | refine SL.y (op_lss rfl rfl) rfl rfl ?_
      refine SL.nil ?_
      refine T.seq ?_
      refine T.condT rfl ?_
      refine T.skip ?_
      refine T.seq ?_
      refine T.block ?_
      refine T.seq ?_
      refine T.region ?_
      refine SL.y (op_move rfl) rfl rfl ?_
      first | refine SL.y (op_indexN Tryd.underlying24 ty9 rfl rfl (by omega)) rfl rfl ?_ | refine SL.y (op_index Tryd.underlying24 ty9 rfl rfl (by omega) (by omega)) rfl rfl ?_
      -- to 12: op
      refine SL.y (op_loadX ty9 rfl (hB.mono hX1) (str_read hx (by omega))) rfl rfl ?_
      refine SL.y (op_assign rfl) rfl rfl ?_
      refine SL.y (op_assign rfl) rfl rfl ?_
      refine SL.nil ?_
      refine T.seq ?_
      refine T.seq ?_
      refine T.region ?_
      refine SL.y (op_move rfl) rfl rfl ?_
      first | refine SL.y (op_gtrT rfl rfl (by omega)) rfl rfl ?_ | refine SL.y (op_gtrF rfl rfl (by omega)) rfl rfl ?_ | refine SL.y (op_gtr rfl rfl) rfl rfl ?_
      refine SL.nil ?_
      refine T.condF rfl ?_
      refine T.skip ?_
      refine T.region ?_
      refine SL.y (op_move rfl) rfl rfl ?_
      refine SL.y (op_move rfl) rfl rfl ?_
      refine SL.y (op_addStr rfl rfl (by first | omega | (simp only [ByteArray.size_append]; omega))) rfl rfl ?_
      refine SL.y (op_assign rfl) rfl rfl ?_
      refine SL.nil ?_
      refine T.blk ?_
      refine T.region ?_
      first | refine SL.y (op_addN (q := 1) rfl rfl (by omega)) rfl rfl ?_ | refine SL.y (op_add rfl rfl (by omega) (by omega)) rfl rfl ?_ | refine SL.y (op_addW rfl rfl) rfl rfl ?_
      refine SL.y (op_move rfl) rfl rfl ?_
      refine SL.nil ?_
      -- cut
      exact T.backW (l.length - (0 + 1)) (by omega) ⟨0 + 1, rfl, by omega, hX1, by rw [hts, joinB_one], rfl⟩ (by repeat (first | exact Sub.nil | refine Sub.cons rfl ?_))
    · have hne : l.take i ≠ [] := fun e => by have := congrArg List.length e; rw [List.length_take, List.length_nil] at this; omega
      refine T.seq ?_
      refine T.region ?_
      first | refine SL.y (op_lssT rfl rfl (by omega)) rfl rfl ?_ | refine SL.y (op_lssF rfl rfl (by omega)) rfl rfl ?_ | refine SL.y (op_lss rfl rfl) rfl rfl ?_
      refine SL.nil ?_
      refine T.seq ?_
      refine T.condT rfl ?_
      refine T.skip ?_
      refine T.seq ?_
      refine T.block ?_
      refine T.seq ?_
      refine T.region ?_
      refine SL.y (op_move rfl) rfl rfl ?_
      first | refine SL.y (op_indexN Tryd.underlying24 ty9 rfl rfl (by omega)) rfl rfl ?_ | refine SL.y (op_index Tryd.underlying24 ty9 rfl rfl (by omega) (by omega)) rfl rfl ?_
      -- to 12: op
      refine SL.y (op_loadX ty9 rfl (hB.mono hX1) (str_read hx (by omega))) rfl rfl ?_
      refine SL.y (op_assign rfl) rfl rfl ?_
      refine SL.y (op_assign rfl) rfl rfl ?_
      refine SL.nil ?_
      refine T.seq ?_
      refine T.seq ?_
      refine T.region ?_
      refine SL.y (op_move rfl) rfl rfl ?_
      first | refine SL.y (op_gtrT rfl rfl (by omega)) rfl rfl ?_ | refine SL.y (op_gtrF rfl rfl (by omega)) rfl rfl ?_ | refine SL.y (op_gtr rfl rfl) rfl rfl ?_
      refine SL.nil ?_
      refine T.condT rfl ?_
      refine T.region ?_
      refine SL.y (op_move rfl) rfl rfl ?_
      refine SL.y (op_addStr rfl rfl (by first | omega | (simp only [ByteArray.size_append]; omega))) rfl rfl ?_
      refine SL.y (op_assign rfl) rfl rfl ?_
      refine SL.nil ?_
      refine T.region ?_
      refine SL.y (op_move rfl) rfl rfl ?_
      refine SL.y (op_move rfl) rfl rfl ?_
      refine SL.y (op_addStr rfl rfl (by first | omega | (simp only [ByteArray.size_append]; omega))) rfl rfl ?_
      refine SL.y (op_assign rfl) rfl rfl ?_
      refine SL.nil ?_
      refine T.blk ?_
      refine T.region ?_
      first | refine SL.y (op_addN (q := 1) rfl rfl (by omega)) rfl rfl ?_ | refine SL.y (op_add rfl rfl (by omega) (by omega)) rfl rfl ?_ | refine SL.y (op_addW rfl rfl) rfl rfl ?_
      refine SL.y (op_move rfl) rfl rfl ?_
      refine SL.nil ?_
      -- cut
      exact T.backW (l.length - (i + 1)) (by omega) ⟨i + 1, rfl, by omega, hX1, by rw [hts, joinB_snoc _ _ hne], rfl⟩ (by repeat (first | exact Sub.nil | refine Sub.cons rfl ?_))
  · obtain rfl : i = l.length := by omega
    rw [List.take_length]
    refine T.seq ?_
    refine T.region ?_
    first | refine SL.y (op_lssT rfl rfl (by omega)) rfl rfl ?_ | refine SL.y (op_lssF rfl rfl (by omega)) rfl rfl ?_ | refine SL.y (op_lss rfl rfl) rfl rfl ?_
    refine SL.nil ?_
    refine T.seq ?_
    refine T.condF rfl ?_
    refine T.exit (T.exitCode (T.exitCut (T.exitBlk ?_)))
    refine T.seq ?_
    refine T.region ?_
    refine SL.y (op_move rfl) rfl rfl ?_
    refine SL.y (op_assign rfl) rfl rfl ?_
    refine SL.nil ?_
    -- ret
    refine T.ret1 rfl (ResIs.tmp rfl) ?_
    rfl
theorem decG_more : ∀ (f g v : Nat), v < 10 ^ f → 0 < f → f ≤ g → decG g v = decG f v
  | 0, _, _, _, h, _ => by omega
  | f + 1, 0, _, _, _, h => by omega
  | f + 1, g + 1, v, h, _, hg => by
    rw [decG, decG]
    by_cases hv : v < 10
    · rw [if_pos hv, if_pos hv]
    · have h1 : v / 10 < 10 ^ f := by rw [Nat.pow_succ] at h; omega
      have hf0 : 0 < f := Nat.pos_of_ne_zero fun e => by subst e; simp at h1; omega
      rw [if_neg hv, if_neg hv, decG_more f g _ h1 hf0 (by omega)]
theorem decB_step {v : Nat} (hv : v ≤ 999999999) (h0 : 10 ≤ v) : decB v = decB (v / 10) ++ ⟨#[UInt8.ofNat (48 + v % 10)]⟩ := by
  apply ByteArray.ext
  have e : decG 20 v = decG 19 (v / 10) ++ [UInt8.ofNat (48 + v % 10)] := by rw [decG, if_neg (by omega)]
  have e2 := decG_more 19 20 (v / 10) (by omega) (by omega) (by omega)
  simp [decB, e, e2]
theorem decB_digit {v : Nat} (h : v < 10) : decB v = ⟨#[UInt8.ofNat (48 + v)]⟩ := by rw [decB, decG, if_pos h]
theorem dec_spec {X : PMap} {v : Nat} (hv : v ≤ 999999999) : Spec Tryd.prog 41 [.int .i64 (v : Int)] X fun u _ => u = .string (decB v) := by
  have hmx : maxLen = 9223372036854775807 := rfl
  refine Spec.enter Tryd.func41 rfl Tryd.ntmps41 rfl ?_
  intro w0 hw0
  refine T.seq ?_
  refine T.region ?_
  refine SL.y (op_assign rfl) rfl rfl ?_
  refine SL.nil ?_
  refine T.seq ?_
  refine T.region ?_
  refine SL.y (op_assign rfl) rfl rfl ?_
  refine SL.nil ?_
  refine T.seq ?_
  refine T.block ?_
  -- loop live [0, 2, 3]
  refine T.loopW (fun m env own X' => ∃ (q : Nat) (s : ByteArray), q ≤ v ∧ ((s = ⟨#[]⟩ ∧ q = v ∧ m = v + 1) ∨ (s.size ≠ 0 ∧ m = q ∧ s.size ≤ 20 + v - q ∧ decB v = (if q = 0 then ⟨#[]⟩ else decB q) ++ s)) ∧ X.le X' ∧ env = [(0, .int .i64 (q : Int)), (3, .string s)] ∧ own = []) (v + 1) ⟨v, _, Nat.le_refl _, .inl ⟨rfl, rfl, rfl⟩, PMap.le_refl _, rfl, rfl⟩ (by repeat (first | exact Sub.nil | refine Sub.cons rfl ?_)) ?_
  rintro m _ _ X1 ⟨q, s, hq, hs, hX1, rfl, rfl⟩
  have step : ∀ (_ : s = ⟨#[]⟩ ∧ q = v ∨ 0 < q ∧ s.size ≠ 0 ∧ decB v = decB q ++ s), decB v = (if q / 10 = 0 then ⟨#[]⟩ else decB (q / 10)) ++ (⟨#[UInt8.ofNat (48 + q % 10)]⟩ ++ s) := by
    have base : decB q = (if q / 10 = 0 then ⟨#[]⟩ else decB (q / 10)) ++ ⟨#[UInt8.ofNat (48 + q % 10)]⟩ := by
      by_cases h10 : q < 10
      · rw [if_pos (by omega), decB_digit h10, Nat.mod_eq_of_lt h10, nil_bytes]
      · rw [if_neg (by omega), decB_step (by omega) (by omega)]
    rintro (⟨rfl, rfl⟩ | ⟨h1, h2, h3⟩)
    · rw [base, bytes_nil]
    · rw [h3, base, ByteArray.append_assoc]
  have k1 : (⟨#[UInt8.ofNat (48 + q % 10)]⟩ : ByteArray).size = 1 := rfl
  have hq10 : q % 10 < 10 := Nat.mod_lt _ (by omega)
  have kc : ((UInt8.ofNat (48 + q % 10)).toNat : Int) = ((48 + q % 10 : Nat) : Int) := by
    rw [UInt8.toNat_ofNat']; omega
  have hsz : s.size ≤ 20 + v - q := by
    rcases hs with ⟨rfl, rfl, _⟩ | ⟨_, _, h, _⟩
    · exact Nat.zero_le _
    · exact h
  have hsz2 : (⟨#[UInt8.ofNat (48 + q % 10)]⟩ ++ s : ByteArray).size = s.size + 1 := by rw [ByteArray.size_append, k1]; omega
  have hnew : ∀ _ : s = ⟨#[]⟩ ∧ q = v ∨ 0 < q ∧ s.size ≠ 0 ∧ decB v = decB q ++ s, (⟨#[UInt8.ofNat (48 + q % 10)]⟩ ++ s : ByteArray).size ≠ 0 ∧ q / 10 = q / 10 ∧ (⟨#[UInt8.ofNat (48 + q % 10)]⟩ ++ s : ByteArray).size ≤ 20 + v - q / 10 ∧ decB v = (if q / 10 = 0 then ⟨#[]⟩ else decB (q / 10)) ++ (⟨#[UInt8.ofNat (48 + q % 10)]⟩ ++ s) := fun h => by
    refine ⟨by omega, rfl, ?_, step h⟩
    rcases h with ⟨rfl, rfl⟩ | ⟨h1, _⟩
    · rw [hsz2]; show 0 + 1 ≤ _; omega
    · omega
  by_cases hemp : s = ⟨#[]⟩
  · subst hemp
    have hqv : q = v ∧ m = v + 1 := by
      rcases hs with ⟨_, h1, h2⟩ | ⟨h, _⟩
      · exact ⟨h1, h2⟩
      · exact absurd rfl h
    have hn := hnew (.inl ⟨rfl, hqv.1⟩)
    refine T.seq ?_
    refine T.seq ?_
    refine T.region ?_
    refine SL.y (op_move rfl) rfl rfl ?_
    refine SL.y (op_eqlStrD rfl rfl) rfl rfl ?_
    refine SL.y (op_move rfl) rfl rfl ?_
    first | refine SL.skip rfl rfl ?_ | refine SL.y (op_move rfl) rfl rfl ?_
    first | refine SL.skip rfl rfl ?_ | refine SL.y (op_gtrT rfl rfl (by omega)) rfl rfl ?_ | refine SL.y (op_gtrF rfl rfl (by omega)) rfl rfl ?_ | refine SL.y (op_gtr rfl rfl) rfl rfl ?_
    first | refine SL.y (op_pickT rfl rfl) rfl rfl ?_ | refine SL.y (op_pickF rfl rfl) rfl rfl ?_ | refine SL.y (op_pickB rfl rfl rfl) rfl rfl ?_
    refine SL.nil ?_
    -- cond
    rw [decide_eq_true rfl]
    refine T.condT rfl ?_
    refine T.skip ?_
    refine T.block ?_
    refine T.seq ?_
    refine T.region ?_
    refine SL.y (op_move rfl) rfl rfl ?_
    first | refine SL.y (op_remS (q := 10) rfl rfl rfl (by omega)) rfl rfl ?_ | refine SL.y (op_remN (q := 10) rfl rfl rfl (by decide)) rfl rfl ?_ | refine SL.y (op_rem rfl rfl (by omega) (by omega)) rfl rfl ?_
    first | refine SL.y (op_addN (p := 48) rfl rfl (by omega)) rfl rfl ?_ | refine SL.y (op_add rfl rfl (by omega) (by omega)) rfl rfl ?_ | refine SL.y (op_addW rfl rfl) rfl rfl ?_
    first | refine SL.y (op_convU8 Tryd.underlying3 Tryd.underlying5 rfl (by omega) (by omega)) rfl rfl ?_ | refine SL.y (op_convert Tryd.underlying3 Tryd.underlying5 rfl) rfl rfl ?_
    refine SL.x (op_buildSlice Tryd.underlying104 bs5 (qs := [(0, _)]) rfl rfl rfl rfl rfl) rfl rfl ?_
    rintro _ _ _ ⟨B14, rfl, rfl, rfl⟩
    -- to 15: op
    refine SL.y (op_str1 (c := UInt8.ofNat (48 + q % 10)) Tryd.underlying104 Tryd.underlying5 Tryd.underlying9 rfl (by rw [← kc]; exact AtO.here)) rfl rfl ?_
    refine SL.y (op_move rfl) rfl rfl ?_
    refine SL.y (op_addStr rfl rfl (by first | omega | (simp only [ByteArray.size_append]; omega))) rfl rfl ?_
    refine SL.y (op_assign rfl) rfl rfl ?_
    refine SL.nil ?_
    refine T.region ?_
    refine SL.y (op_move rfl) rfl rfl ?_
    first | refine SL.y (op_quo0 (q := 10) rfl rfl rfl (by omega) (by omega)) rfl rfl ?_ | refine SL.y (op_quoN (q := 10) rfl rfl rfl (by omega) (by decide)) rfl rfl ?_ | refine SL.y (op_quo rfl rfl (by omega) (by omega) (by omega)) rfl rfl ?_
    refine SL.y (op_assign rfl) rfl rfl ?_
    refine SL.nil ?_
    refine T.blk ?_
    -- cut
    refine T.drop B14 (by repeat (first | exact AtO.here | apply AtO.there)) ?_
    exact T.backW (q / 10) (by omega) ⟨q / 10, _, by omega, .inr hn, hX1, rfl, rfl⟩ (by repeat (first | exact Sub.nil | refine Sub.cons rfl ?_))
  · have hs2 : s.size ≠ 0 ∧ m = q ∧ s.size ≤ 20 + v - q ∧ decB v = (if q = 0 then ⟨#[]⟩ else decB q) ++ s := by
      rcases hs with ⟨h, _⟩ | h
      · exact absurd h hemp
      · exact h
    obtain ⟨g1, rfl, g3, g4⟩ := hs2
    rcases Nat.eq_zero_or_pos m with h0 | h0
    · subst h0
      rw [if_pos rfl, nil_bytes] at g4
      refine T.seq ?_
      refine T.seq ?_
      refine T.region ?_
      refine SL.y (op_move rfl) rfl rfl ?_
      refine SL.y (op_eqlStrD rfl rfl) rfl rfl ?_
      -- to 6: op
      rw [decide_eq_false hemp]
      refine SL.y (op_move rfl) rfl rfl ?_
      first | refine SL.skip rfl rfl ?_ | refine SL.y (op_move rfl) rfl rfl ?_
      first | refine SL.skip rfl rfl ?_ | refine SL.y (op_gtrT rfl rfl (by omega)) rfl rfl ?_ | refine SL.y (op_gtrF rfl rfl (by omega)) rfl rfl ?_ | refine SL.y (op_gtr rfl rfl) rfl rfl ?_
      first | refine SL.y (op_pickT rfl rfl) rfl rfl ?_ | refine SL.y (op_pickF rfl rfl) rfl rfl ?_ | refine SL.y (op_pickB rfl rfl rfl) rfl rfl ?_
      refine SL.nil ?_
      refine T.condF rfl ?_
      refine T.exit (T.exitCode (T.exitCut (T.exitBlk ?_)))
      refine T.seq ?_
      refine T.region ?_
      refine SL.y (op_move rfl) rfl rfl ?_
      refine SL.y (op_assign rfl) rfl rfl ?_
      refine SL.nil ?_
      -- ret
      refine T.ret1 rfl (ResIs.tmp rfl) ?_
      rw [g4]
    · have hn := hnew (.inr ⟨h0, g1, by rw [if_neg (by omega)] at g4; exact g4⟩)
      refine T.seq ?_
      refine T.seq ?_
      refine T.region ?_
      refine SL.y (op_move rfl) rfl rfl ?_
      refine SL.y (op_eqlStrD rfl rfl) rfl rfl ?_
      -- to 6: op
      rw [decide_eq_false hemp]
      refine SL.y (op_move rfl) rfl rfl ?_
      first | refine SL.skip rfl rfl ?_ | refine SL.y (op_move rfl) rfl rfl ?_
      first | refine SL.skip rfl rfl ?_ | refine SL.y (op_gtrT rfl rfl (by omega)) rfl rfl ?_ | refine SL.y (op_gtrF rfl rfl (by omega)) rfl rfl ?_ | refine SL.y (op_gtr rfl rfl) rfl rfl ?_
      first | refine SL.y (op_pickT rfl rfl) rfl rfl ?_ | refine SL.y (op_pickF rfl rfl) rfl rfl ?_ | refine SL.y (op_pickB rfl rfl rfl) rfl rfl ?_
      refine SL.nil ?_
      refine T.condT rfl ?_
      refine T.skip ?_
      refine T.block ?_
      refine T.seq ?_
      refine T.region ?_
      refine SL.y (op_move rfl) rfl rfl ?_
      first | refine SL.y (op_remS (q := 10) rfl rfl rfl (by omega)) rfl rfl ?_ | refine SL.y (op_remN (q := 10) rfl rfl rfl (by decide)) rfl rfl ?_ | refine SL.y (op_rem rfl rfl (by omega) (by omega)) rfl rfl ?_
      first | refine SL.y (op_addN (p := 48) rfl rfl (by omega)) rfl rfl ?_ | refine SL.y (op_add rfl rfl (by omega) (by omega)) rfl rfl ?_ | refine SL.y (op_addW rfl rfl) rfl rfl ?_
      first | refine SL.y (op_convU8 Tryd.underlying3 Tryd.underlying5 rfl (by omega) (by omega)) rfl rfl ?_ | refine SL.y (op_convert Tryd.underlying3 Tryd.underlying5 rfl) rfl rfl ?_
      refine SL.x (op_buildSlice Tryd.underlying104 bs5 (qs := [(0, _)]) rfl rfl rfl rfl rfl) rfl rfl ?_
      rintro _ _ _ ⟨B14, rfl, rfl, rfl⟩
      -- to 15: op
      refine SL.y (op_str1 (c := UInt8.ofNat (48 + m % 10)) Tryd.underlying104 Tryd.underlying5 Tryd.underlying9 rfl (by rw [← kc]; exact AtO.here)) rfl rfl ?_
      refine SL.y (op_move rfl) rfl rfl ?_
      refine SL.y (op_addStr rfl rfl (by first | omega | (simp only [ByteArray.size_append]; omega))) rfl rfl ?_
      refine SL.y (op_assign rfl) rfl rfl ?_
      refine SL.nil ?_
      refine T.region ?_
      refine SL.y (op_move rfl) rfl rfl ?_
      first | refine SL.y (op_quo0 (q := 10) rfl rfl rfl (by omega) (by omega)) rfl rfl ?_ | refine SL.y (op_quoN (q := 10) rfl rfl rfl (by omega) (by decide)) rfl rfl ?_ | refine SL.y (op_quo rfl rfl (by omega) (by omega) (by omega)) rfl rfl ?_
      refine SL.y (op_assign rfl) rfl rfl ?_
      refine SL.nil ?_
      refine T.blk ?_
      -- cut
      refine T.drop B14 (by repeat (first | exact AtO.here | apply AtO.there)) ?_
      exact T.backW (m / 10) (by omega) ⟨m / 10, _, by omega, .inr hn, hX1, rfl, rfl⟩ (by repeat (first | exact Sub.nil | refine Sub.cons rfl ?_))
theorem roperand_spec {X : PMap} {e : Ex} {r : Row4} {least : Nat} (hr : ExR .i64 X e r) (ht : ∀ {X' : PMap}, X.le X' → Spec Tryd.prog 54 [.agg #[r.1, r.2.1, r.2.2.1, r.2.2.2]] X' fun u _ => u = .string (textE e)) (hs : (textE e).size < 1000000000000) : Spec Tryd.prog 87 [.agg #[r.1, r.2.1, r.2.2.1, r.2.2.2], .int .i64 (least : Int)] X fun u _ => u = .string (parB (strN e.op) (textE e) least) := by
  have k1 : (⟨#[40]⟩ : ByteArray).size = 1 := rfl
  have k2 : (⟨#[41]⟩ : ByteArray).size = 1 := rfl
  cases hr with
  | @mk op n ns al vn va rows hn ha hl hr =>
  obtain ⟨Aa, ca, rfl⟩ := ha.form
  obtain ⟨An, cn, rfl⟩ := hn.form
  by_cases hc : strN op < least
  · refine Spec.enter Tryd.func87 rfl Tryd.ntmps87 rfl ?_
    intro w0 hw0
    refine T.seq ?_
    refine T.region ?_
    refine SL.x (op_box rfl) rfl rfl ?_
    rintro _ _ _ ⟨B2, rfl, rfl, rfl⟩
    refine SL.y (op_assign rfl) rfl rfl ?_
    refine SL.nil ?_
    refine T.seq ?_
    refine T.seq ?_
    refine T.region ?_
    refine SL.y (op_fieldAddr fa27_0 rfl) rfl rfl ?_
    first | refine SL.y (op_load ty3 rfl (by repeat (first | exact AtO.here | apply AtO.there)) rfl) rfl rfl ?_ | refine SL.y (op_loadX ty3 rfl (by assumption) rfl) rfl rfl ?_
    -- op
    refine SL.x (op_callF en88 (vs := [_]) rfl (binds_spec (op := op))) rfl rfl ?_
    rintro _ _ X1 ⟨rfl, hX1, rfl⟩
    refine SL.y (op_move rfl) rfl rfl ?_
    first | refine SL.y (op_lssT rfl rfl (by omega)) rfl rfl ?_ | refine SL.y (op_lssF rfl rfl (by omega)) rfl rfl ?_ | refine SL.y (op_lss rfl rfl) rfl rfl ?_
    refine SL.nil ?_
    refine T.condT rfl ?_
    refine T.seq ?_
    refine T.region ?_
    first | refine SL.y (op_load ty27 rfl (by repeat (first | exact AtO.here | apply AtO.there)) rfl) rfl rfl ?_ | refine SL.y (op_loadX ty27 rfl (by assumption) rfl) rfl rfl ?_
    -- op
    refine SL.x (op_callF en54 (vs := [_]) rfl (ht hX1)) rfl rfl ?_
    rintro _ _ X2 ⟨rfl, hX2, rfl⟩
    refine SL.y (op_addStr rfl rfl (by first | omega | (simp only [ByteArray.size_append]; omega))) rfl rfl ?_
    refine SL.y (op_addStr rfl rfl (by first | omega | (simp only [ByteArray.size_append]; omega))) rfl rfl ?_
    refine SL.y (op_assign rfl) rfl rfl ?_
    refine SL.nil ?_
    -- ret
    refine T.ret1 rfl (ResIs.tmp rfl) ?_
    rw [parB, Ex.op, if_pos hc]
  · refine Spec.enter Tryd.func87 rfl Tryd.ntmps87 rfl ?_
    intro w0 hw0
    refine T.seq ?_
    refine T.region ?_
    refine SL.x (op_box rfl) rfl rfl ?_
    rintro _ _ _ ⟨B2, rfl, rfl, rfl⟩
    refine SL.y (op_assign rfl) rfl rfl ?_
    refine SL.nil ?_
    refine T.seq ?_
    refine T.seq ?_
    refine T.region ?_
    refine SL.y (op_fieldAddr fa27_0 rfl) rfl rfl ?_
    first | refine SL.y (op_load ty3 rfl (by repeat (first | exact AtO.here | apply AtO.there)) rfl) rfl rfl ?_ | refine SL.y (op_loadX ty3 rfl (by assumption) rfl) rfl rfl ?_
    -- op
    refine SL.x (op_callF en88 (vs := [_]) rfl (binds_spec (op := op))) rfl rfl ?_
    rintro _ _ X1 ⟨rfl, hX1, rfl⟩
    refine SL.y (op_move rfl) rfl rfl ?_
    first | refine SL.y (op_lssT rfl rfl (by omega)) rfl rfl ?_ | refine SL.y (op_lssF rfl rfl (by omega)) rfl rfl ?_ | refine SL.y (op_lss rfl rfl) rfl rfl ?_
    refine SL.nil ?_
    refine T.condF rfl ?_
    refine T.skip ?_
    refine T.seq ?_
    refine T.region ?_
    first | refine SL.y (op_load ty27 rfl (by repeat (first | exact AtO.here | apply AtO.there)) rfl) rfl rfl ?_ | refine SL.y (op_loadX ty27 rfl (by assumption) rfl) rfl rfl ?_
    -- op
    refine SL.x (op_callF en54 (vs := [_]) rfl (ht hX1)) rfl rfl ?_
    rintro _ _ X2 ⟨rfl, hX2, rfl⟩
    refine SL.y (op_assign rfl) rfl rfl ?_
    refine SL.nil ?_
    -- ret
    refine T.ret1 rfl (ResIs.tmp rfl) ?_
    rw [parB, Ex.op, if_neg hc]
def sgnB (op : Nat) : ByteArray := match op with
  | 8 => ⟨#[97, 110, 100]⟩ | 9 => ⟨#[111, 114]⟩ | 10 => ⟨#[45, 62]⟩ | 11 => ⟨#[60, 61]⟩ | 12 => ⟨#[60]⟩ | 13 => ⟨#[62, 61]⟩ | 14 => ⟨#[62]⟩ | 15 => ⟨#[61, 61]⟩ | _ => ⟨#[43]⟩
def signs9 : List ByteArray := [sgnB 8, sgnB 9, sgnB 10, sgnB 11, sgnB 12, sgnB 13, sgnB 14, sgnB 15, sgnB 16]
theorem signs9_at {op : Nat} (h1 : 8 ≤ op) (h2 : op ≤ 16) : signs9[op - 8]? = some (sgnB op) := by
  rcases (by omega : op = 8 ∨ op = 9 ∨ op = 10 ∨ op = 11 ∨ op = 12 ∨ op = 13 ∨ op = 14 ∨ op = 15 ∨ op = 16) with rfl | rfl | rfl | rfl | rfl | rfl | rfl | rfl | rfl <;> rfl
theorem sgn_word {op : Nat} (h1 : 8 ≤ op) (h2 : op ≤ 16) (a b : ByteArray) : a ++ ⟨#[32]⟩ ++ sgnB op ++ ⟨#[32]⟩ ++ b = a ++ wordB op ++ b := by
  have e : (⟨#[32]⟩ : ByteArray) ++ sgnB op ++ ⟨#[32]⟩ = wordB op := by
    rcases (by omega : op = 8 ∨ op = 9 ∨ op = 10 ∨ op = 11 ∨ op = 12 ∨ op = 13 ∨ op = 14 ∨ op = 15 ∨ op = 16) with rfl | rfl | rfl | rfl | rfl | rfl | rfl | rfl | rfl <;> rfl
  rw [← e]
  simp only [ByteArray.append_assoc]
theorem sgnB_size (op : Nat) : (sgnB op).size ≤ 3 := by
  unfold sgnB
  split <;> decide
theorem rtext_spec (N : Nat) : ∀ {X : PMap} {e : Ex} {r : Row4}, wtE e ≤ N → N < 1000000 → nodeE e = 0 → ExR .i64 X e r → Spec Tryd.prog 54 [.agg #[r.1, r.2.1, r.2.2.1, r.2.2.2]] X fun u _ => u = .string (textE e) := by
  induction N with
  | zero => intro X e r h; cases e; rw [wtE] at h; omega
  | succ N ih =>
    intro X e r hN hB hnode h
    have hopd : ∀ {X : PMap} {a : Ex} {r : Row4} {least : Nat}, wtE a ≤ N → nodeE a = 0 → ExR .i64 X a r → Spec Tryd.prog 87 [.agg #[r.1, r.2.1, r.2.2.1, r.2.2.2], .int .i64 (least : Int)] X fun u _ => u = .string (parB (strN a.op) (textE a) least) := fun h1 h2 h4 => roperand_spec h4 (fun hX => ih h1 (by omega) h2 (h4.mono hX)) (Nat.lt_of_le_of_lt (text_size _) (by omega))
    cases h with
    | @mk op n ns al vn va rows hn ha hl hr =>
    obtain ⟨Aa, ca, rfl⟩ := ha.form
    obtain ⟨An, cn, rfl⟩ := hn.form
    have hlen := wtL_len al
    have hnl := wtS_len ns
    rw [wtE] at hN
    obtain ⟨hown, hargs⟩ := node_ok hnode
    obtain ⟨o1, o2, o3, o4, o5, o6, o7, o8, o9⟩ := own_ok hown
    have k1 : (⟨#[99, 111, 117, 110, 116, 40]⟩ : ByteArray).size = 6 := rfl
    have k2 : (⟨#[41]⟩ : ByteArray).size = 1 := rfl
    have k3 : (⟨#[109, 101, 109, 98, 101, 114, 115, 40]⟩ : ByteArray).size = 8 := rfl
    have k4 : (⟨#[110, 111, 116, 32]⟩ : ByteArray).size = 4 := rfl
    have k5 : (⟨#[32]⟩ : ByteArray).size = 1 := rfl
    by_cases c1 : op = 1
    · obtain ⟨v, rfl⟩ := Int.eq_ofNat_of_zero_le o8
      refine Spec.enter Tryd.func54 rfl Tryd.ntmps54 rfl ?_
      intro w0 hw0
      refine T.seq ?_
      refine T.region ?_
      refine SL.x (op_box rfl) rfl rfl ?_
      rintro _ _ _ ⟨B1, rfl, rfl, rfl⟩
      refine SL.y (op_assign rfl) rfl rfl ?_
      refine SL.nil ?_
      refine T.seq ?_
      refine T.seq ?_
      refine T.region ?_
      refine SL.y (op_fieldAddr fa27_0 rfl) rfl rfl ?_
      first | refine SL.y (op_load ty3 rfl (by repeat (first | exact AtO.here | apply AtO.there)) rfl) rfl rfl ?_ | refine SL.y (op_loadX ty3 rfl (by assumption) rfl) rfl rfl ?_
      refine SL.nil ?_
      refine T.block ?_
      refine T.seq ?_
      refine T.region ?_
      first | refine SL.y (op_eqlT rfl rfl (by omega)) rfl rfl ?_ | refine SL.y (op_eqlF rfl rfl (by omega)) rfl rfl ?_ | refine SL.y (op_eql rfl rfl) rfl rfl ?_
      refine SL.y (op_assign rfl) rfl rfl ?_
      refine SL.nil ?_
      refine T.condT rfl ?_
      refine T.seq ?_
      refine T.region ?_
      refine SL.y (op_fieldAddr fa27_1 rfl) rfl rfl ?_
      first | refine SL.y (op_load ty3 rfl (by repeat (first | exact AtO.here | apply AtO.there)) rfl) rfl rfl ?_ | refine SL.y (op_loadX ty3 rfl (by assumption) rfl) rfl rfl ?_
      -- op
      refine SL.x (op_callF en41 (vs := [_]) rfl (dec_spec (v := v) (by omega))) rfl rfl ?_
      rintro _ _ X2 ⟨rfl, hX2, rfl⟩
      refine SL.y (op_assign rfl) rfl rfl ?_
      refine SL.nil ?_
      -- ret
      refine T.ret1 rfl (ResIs.tmp rfl) ?_
      rw [textE, if_pos c1]; rfl
    by_cases c2 : op = 2
    · refine Spec.enter Tryd.func54 rfl Tryd.ntmps54 rfl ?_
      intro w0 hw0
      refine T.seq ?_
      refine T.region ?_
      refine SL.x (op_box rfl) rfl rfl ?_
      rintro _ _ _ ⟨B1, rfl, rfl, rfl⟩
      refine SL.y (op_assign rfl) rfl rfl ?_
      refine SL.nil ?_
      refine T.seq ?_
      refine T.seq ?_
      refine T.region ?_
      refine SL.y (op_fieldAddr fa27_0 rfl) rfl rfl ?_
      first | refine SL.y (op_load ty3 rfl (by repeat (first | exact AtO.here | apply AtO.there)) rfl) rfl rfl ?_ | refine SL.y (op_loadX ty3 rfl (by assumption) rfl) rfl rfl ?_
      refine SL.nil ?_
      refine T.block ?_
      refine T.seq ?_
      refine T.region ?_
      first | refine SL.y (op_eqlT rfl rfl (by omega)) rfl rfl ?_ | refine SL.y (op_eqlF rfl rfl (by omega)) rfl rfl ?_ | refine SL.y (op_eql rfl rfl) rfl rfl ?_
      refine SL.y (op_assign rfl) rfl rfl ?_
      refine SL.nil ?_
      refine T.condF rfl ?_
      refine T.seq ?_
      refine T.region ?_
      first | refine SL.y (op_eqlT rfl rfl (by omega)) rfl rfl ?_ | refine SL.y (op_eqlF rfl rfl (by omega)) rfl rfl ?_ | refine SL.y (op_eql rfl rfl) rfl rfl ?_
      refine SL.y (op_assign rfl) rfl rfl ?_
      refine SL.nil ?_
      refine T.condT rfl ?_
      refine T.seq ?_
      refine T.region ?_
      refine SL.y (op_assign rfl) rfl rfl ?_
      refine SL.nil ?_
      -- ret
      refine T.ret1 rfl (ResIs.tmp rfl) ?_
      rw [textE, if_neg c1, if_pos c2]
    by_cases c3 : op = 3
    · refine Spec.enter Tryd.func54 rfl Tryd.ntmps54 rfl ?_
      intro w0 hw0
      refine T.seq ?_
      refine T.region ?_
      refine SL.x (op_box rfl) rfl rfl ?_
      rintro _ _ _ ⟨B1, rfl, rfl, rfl⟩
      refine SL.y (op_assign rfl) rfl rfl ?_
      refine SL.nil ?_
      refine T.seq ?_
      refine T.seq ?_
      refine T.region ?_
      refine SL.y (op_fieldAddr fa27_0 rfl) rfl rfl ?_
      first | refine SL.y (op_load ty3 rfl (by repeat (first | exact AtO.here | apply AtO.there)) rfl) rfl rfl ?_ | refine SL.y (op_loadX ty3 rfl (by assumption) rfl) rfl rfl ?_
      refine SL.nil ?_
      refine T.block ?_
      refine T.seq ?_
      refine T.region ?_
      first | refine SL.y (op_eqlT rfl rfl (by omega)) rfl rfl ?_ | refine SL.y (op_eqlF rfl rfl (by omega)) rfl rfl ?_ | refine SL.y (op_eql rfl rfl) rfl rfl ?_
      refine SL.y (op_assign rfl) rfl rfl ?_
      refine SL.nil ?_
      refine T.condF rfl ?_
      refine T.seq ?_
      refine T.region ?_
      first | refine SL.y (op_eqlT rfl rfl (by omega)) rfl rfl ?_ | refine SL.y (op_eqlF rfl rfl (by omega)) rfl rfl ?_ | refine SL.y (op_eql rfl rfl) rfl rfl ?_
      refine SL.y (op_assign rfl) rfl rfl ?_
      refine SL.nil ?_
      refine T.condF rfl ?_
      refine T.seq ?_
      refine T.region ?_
      first | refine SL.y (op_eqlT rfl rfl (by omega)) rfl rfl ?_ | refine SL.y (op_eqlF rfl rfl (by omega)) rfl rfl ?_ | refine SL.y (op_eql rfl rfl) rfl rfl ?_
      refine SL.y (op_assign rfl) rfl rfl ?_
      refine SL.nil ?_
      refine T.condT rfl ?_
      refine T.seq ?_
      refine T.region ?_
      refine SL.y (op_assign rfl) rfl rfl ?_
      refine SL.nil ?_
      -- ret
      refine T.ret1 rfl (ResIs.tmp rfl) ?_
      rw [textE, if_neg c1, if_neg c2, if_pos c3]
    by_cases c4 : op = 4
    · have hl1 : ns.length = 1 := by simpa [namN, c4] using o5
      obtain ⟨s, rfl⟩ : ∃ s, ns = [s] := by
        match ns, hl1 with
        | [s], _ => exact ⟨s, rfl⟩
      obtain ⟨bN, pre, rfl, hB1⟩ := hn.blk (by simp)
      refine Spec.enter Tryd.func54 rfl Tryd.ntmps54 rfl ?_
      intro w0 hw0
      refine T.seq ?_
      refine T.region ?_
      refine SL.x (op_box rfl) rfl rfl ?_
      rintro _ _ _ ⟨B1, rfl, rfl, rfl⟩
      refine SL.y (op_assign rfl) rfl rfl ?_
      refine SL.nil ?_
      refine T.seq ?_
      refine T.seq ?_
      refine T.region ?_
      refine SL.y (op_fieldAddr fa27_0 rfl) rfl rfl ?_
      first | refine SL.y (op_load ty3 rfl (by repeat (first | exact AtO.here | apply AtO.there)) rfl) rfl rfl ?_ | refine SL.y (op_loadX ty3 rfl (by assumption) rfl) rfl rfl ?_
      refine SL.nil ?_
      refine T.block ?_
      refine T.seq ?_
      refine T.region ?_
      first | refine SL.y (op_eqlT rfl rfl (by omega)) rfl rfl ?_ | refine SL.y (op_eqlF rfl rfl (by omega)) rfl rfl ?_ | refine SL.y (op_eql rfl rfl) rfl rfl ?_
      refine SL.y (op_assign rfl) rfl rfl ?_
      refine SL.nil ?_
      refine T.condF rfl ?_
      refine T.seq ?_
      refine T.region ?_
      first | refine SL.y (op_eqlT rfl rfl (by omega)) rfl rfl ?_ | refine SL.y (op_eqlF rfl rfl (by omega)) rfl rfl ?_ | refine SL.y (op_eql rfl rfl) rfl rfl ?_
      refine SL.y (op_assign rfl) rfl rfl ?_
      refine SL.nil ?_
      refine T.condF rfl ?_
      refine T.seq ?_
      refine T.region ?_
      first | refine SL.y (op_eqlT rfl rfl (by omega)) rfl rfl ?_ | refine SL.y (op_eqlF rfl rfl (by omega)) rfl rfl ?_ | refine SL.y (op_eql rfl rfl) rfl rfl ?_
      refine SL.y (op_assign rfl) rfl rfl ?_
      refine SL.nil ?_
      refine T.condF rfl ?_
      refine T.seq ?_
      refine T.region ?_
      first | refine SL.y (op_eqlT rfl rfl (by omega)) rfl rfl ?_ | refine SL.y (op_eqlF rfl rfl (by omega)) rfl rfl ?_ | refine SL.y (op_eql rfl rfl) rfl rfl ?_
      refine SL.y (op_assign rfl) rfl rfl ?_
      refine SL.nil ?_
      refine T.condT rfl ?_
      refine T.seq ?_
      refine T.region ?_
      refine SL.y (op_fieldAddr fa27_2 rfl) rfl rfl ?_
      first | refine SL.y (op_load ty24 rfl (by repeat (first | exact AtO.here | apply AtO.there)) rfl) rfl rfl ?_ | refine SL.y (op_loadX ty24 rfl (by assumption) rfl) rfl rfl ?_
      first | refine SL.y (op_indexN Tryd.underlying24 ty9 rfl rfl (by omega)) rfl rfl ?_ | refine SL.y (op_index Tryd.underlying24 ty9 rfl rfl (by omega) (by omega)) rfl rfl ?_
      -- to 22: op
      refine SL.y (op_loadX ty9 rfl hB1 (str_read (i := 0) rfl (by omega))) rfl rfl ?_
      refine SL.y (op_assign rfl) rfl rfl ?_
      refine SL.nil ?_
      -- ret
      refine T.ret1 rfl (ResIs.tmp rfl) ?_
      rw [textE, if_neg c1, if_neg c2, if_neg c3, if_pos c4]; rfl
    by_cases c5 : op = 5
    · have hj := joinB_size ns
      refine Spec.enter Tryd.func54 rfl Tryd.ntmps54 rfl ?_
      intro w0 hw0
      refine T.seq ?_
      refine T.region ?_
      refine SL.x (op_box rfl) rfl rfl ?_
      rintro _ _ _ ⟨B1, rfl, rfl, rfl⟩
      refine SL.y (op_assign rfl) rfl rfl ?_
      refine SL.nil ?_
      refine T.seq ?_
      refine T.seq ?_
      refine T.region ?_
      refine SL.y (op_fieldAddr fa27_0 rfl) rfl rfl ?_
      first | refine SL.y (op_load ty3 rfl (by repeat (first | exact AtO.here | apply AtO.there)) rfl) rfl rfl ?_ | refine SL.y (op_loadX ty3 rfl (by assumption) rfl) rfl rfl ?_
      refine SL.nil ?_
      refine T.block ?_
      refine T.seq ?_
      refine T.region ?_
      first | refine SL.y (op_eqlT rfl rfl (by omega)) rfl rfl ?_ | refine SL.y (op_eqlF rfl rfl (by omega)) rfl rfl ?_ | refine SL.y (op_eql rfl rfl) rfl rfl ?_
      refine SL.y (op_assign rfl) rfl rfl ?_
      refine SL.nil ?_
      refine T.condF rfl ?_
      refine T.seq ?_
      refine T.region ?_
      first | refine SL.y (op_eqlT rfl rfl (by omega)) rfl rfl ?_ | refine SL.y (op_eqlF rfl rfl (by omega)) rfl rfl ?_ | refine SL.y (op_eql rfl rfl) rfl rfl ?_
      refine SL.y (op_assign rfl) rfl rfl ?_
      refine SL.nil ?_
      refine T.condF rfl ?_
      refine T.seq ?_
      refine T.region ?_
      first | refine SL.y (op_eqlT rfl rfl (by omega)) rfl rfl ?_ | refine SL.y (op_eqlF rfl rfl (by omega)) rfl rfl ?_ | refine SL.y (op_eql rfl rfl) rfl rfl ?_
      refine SL.y (op_assign rfl) rfl rfl ?_
      refine SL.nil ?_
      refine T.condF rfl ?_
      refine T.seq ?_
      refine T.region ?_
      first | refine SL.y (op_eqlT rfl rfl (by omega)) rfl rfl ?_ | refine SL.y (op_eqlF rfl rfl (by omega)) rfl rfl ?_ | refine SL.y (op_eql rfl rfl) rfl rfl ?_
      refine SL.y (op_assign rfl) rfl rfl ?_
      refine SL.nil ?_
      refine T.condF rfl ?_
      refine T.seq ?_
      refine T.region ?_
      first | refine SL.y (op_eqlT rfl rfl (by omega)) rfl rfl ?_ | refine SL.y (op_eqlF rfl rfl (by omega)) rfl rfl ?_ | refine SL.y (op_eql rfl rfl) rfl rfl ?_
      refine SL.y (op_assign rfl) rfl rfl ?_
      refine SL.nil ?_
      refine T.condT rfl ?_
      refine T.seq ?_
      refine T.region ?_
      refine SL.y (op_fieldAddr fa27_2 rfl) rfl rfl ?_
      first | refine SL.y (op_load ty24 rfl (by repeat (first | exact AtO.here | apply AtO.there)) rfl) rfl rfl ?_ | refine SL.y (op_loadX ty24 rfl (by assumption) rfl) rfl rfl ?_
      -- op
      refine SL.x (op_callF en86 (vs := [_]) rfl (joined_spec hn (by omega))) rfl rfl ?_
      rintro _ _ X2 ⟨rfl, hX2, rfl⟩
      refine SL.y (op_addStr rfl rfl (by first | omega | (simp only [ByteArray.size_append]; omega))) rfl rfl ?_
      refine SL.y (op_addStr rfl rfl (by first | omega | (simp only [ByteArray.size_append]; omega))) rfl rfl ?_
      refine SL.y (op_assign rfl) rfl rfl ?_
      refine SL.nil ?_
      -- ret
      refine T.ret1 rfl (ResIs.tmp rfl) ?_
      rw [textE, if_neg c1, if_neg c2, if_neg c3, if_neg c4, if_pos c5]
    by_cases c6 : op = 6
    · have hl1 : ns.length = 1 := by simpa [namN, c6] using o5
      obtain ⟨s, rfl⟩ : ∃ s, ns = [s] := by
        match ns, hl1 with
        | [s], _ => exact ⟨s, rfl⟩
      obtain ⟨bN, pre, rfl, hB1⟩ := hn.blk (by simp)
      have hsz := wtS_mem (ns := [s]) (s := s) (by simp)
      refine Spec.enter Tryd.func54 rfl Tryd.ntmps54 rfl ?_
      intro w0 hw0
      refine T.seq ?_
      refine T.region ?_
      refine SL.x (op_box rfl) rfl rfl ?_
      rintro _ _ _ ⟨B1, rfl, rfl, rfl⟩
      refine SL.y (op_assign rfl) rfl rfl ?_
      refine SL.nil ?_
      refine T.seq ?_
      refine T.seq ?_
      refine T.region ?_
      refine SL.y (op_fieldAddr fa27_0 rfl) rfl rfl ?_
      first | refine SL.y (op_load ty3 rfl (by repeat (first | exact AtO.here | apply AtO.there)) rfl) rfl rfl ?_ | refine SL.y (op_loadX ty3 rfl (by assumption) rfl) rfl rfl ?_
      refine SL.nil ?_
      refine T.block ?_
      refine T.seq ?_
      refine T.region ?_
      first | refine SL.y (op_eqlT rfl rfl (by omega)) rfl rfl ?_ | refine SL.y (op_eqlF rfl rfl (by omega)) rfl rfl ?_ | refine SL.y (op_eql rfl rfl) rfl rfl ?_
      refine SL.y (op_assign rfl) rfl rfl ?_
      refine SL.nil ?_
      refine T.condF rfl ?_
      refine T.seq ?_
      refine T.region ?_
      first | refine SL.y (op_eqlT rfl rfl (by omega)) rfl rfl ?_ | refine SL.y (op_eqlF rfl rfl (by omega)) rfl rfl ?_ | refine SL.y (op_eql rfl rfl) rfl rfl ?_
      refine SL.y (op_assign rfl) rfl rfl ?_
      refine SL.nil ?_
      refine T.condF rfl ?_
      refine T.seq ?_
      refine T.region ?_
      first | refine SL.y (op_eqlT rfl rfl (by omega)) rfl rfl ?_ | refine SL.y (op_eqlF rfl rfl (by omega)) rfl rfl ?_ | refine SL.y (op_eql rfl rfl) rfl rfl ?_
      refine SL.y (op_assign rfl) rfl rfl ?_
      refine SL.nil ?_
      refine T.condF rfl ?_
      refine T.seq ?_
      refine T.region ?_
      first | refine SL.y (op_eqlT rfl rfl (by omega)) rfl rfl ?_ | refine SL.y (op_eqlF rfl rfl (by omega)) rfl rfl ?_ | refine SL.y (op_eql rfl rfl) rfl rfl ?_
      refine SL.y (op_assign rfl) rfl rfl ?_
      refine SL.nil ?_
      refine T.condF rfl ?_
      refine T.seq ?_
      refine T.region ?_
      first | refine SL.y (op_eqlT rfl rfl (by omega)) rfl rfl ?_ | refine SL.y (op_eqlF rfl rfl (by omega)) rfl rfl ?_ | refine SL.y (op_eql rfl rfl) rfl rfl ?_
      refine SL.y (op_assign rfl) rfl rfl ?_
      refine SL.nil ?_
      refine T.condF rfl ?_
      refine T.seq ?_
      refine T.region ?_
      first | refine SL.y (op_eqlT rfl rfl (by omega)) rfl rfl ?_ | refine SL.y (op_eqlF rfl rfl (by omega)) rfl rfl ?_ | refine SL.y (op_eql rfl rfl) rfl rfl ?_
      refine SL.y (op_assign rfl) rfl rfl ?_
      refine SL.nil ?_
      refine T.condT rfl ?_
      refine T.seq ?_
      refine T.region ?_
      refine SL.y (op_fieldAddr fa27_2 rfl) rfl rfl ?_
      first | refine SL.y (op_load ty24 rfl (by repeat (first | exact AtO.here | apply AtO.there)) rfl) rfl rfl ?_ | refine SL.y (op_loadX ty24 rfl (by assumption) rfl) rfl rfl ?_
      first | refine SL.y (op_indexN Tryd.underlying24 ty9 rfl rfl (by omega)) rfl rfl ?_ | refine SL.y (op_index Tryd.underlying24 ty9 rfl rfl (by omega) (by omega)) rfl rfl ?_
      -- to 35: op
      refine SL.y (op_loadX ty9 rfl hB1 (str_read (i := 0) rfl (by omega))) rfl rfl ?_
      refine SL.y (op_addStr rfl rfl (by first | omega | (simp only [ByteArray.size_append]; omega))) rfl rfl ?_
      refine SL.y (op_addStr rfl rfl (by first | omega | (simp only [ByteArray.size_append]; omega))) rfl rfl ?_
      refine SL.y (op_assign rfl) rfl rfl ?_
      refine SL.nil ?_
      -- ret
      refine T.ret1 rfl (ResIs.tmp rfl) ?_
      rw [textE, if_neg c1, if_neg c2, if_neg c3, if_neg c4, if_neg c5, if_pos c6]; rfl
    by_cases c7 : op = 7
    · have hal : al.length = 1 := by rw [o3, c7]; rfl
      obtain ⟨a, rfl⟩ : ∃ a, al = [a] := by
        match al, hal with
        | [a], _ => exact ⟨a, rfl⟩
      obtain ⟨ra, rfl⟩ : ∃ ra, rows = [ra] := by
        match rows, hl with
        | [ra], _ => exact ⟨ra, rfl⟩
      have hra := hr 0 a ra rfl rfl
      obtain ⟨bA, pre, rfl, hbA⟩ := ha.blk (by simp)
      obtain ⟨_, _, _, _, _, _, _, _, rfl⟩ := hra.form
      have hna := nodeL_zero hargs a (by simp)
      have hwa : wtE a ≤ N := by rw [wtL, wtL] at hN; omega
      have hts := text_size a
      have hps := parB_size (strN a.op) (textE a) 4
      refine Spec.enter Tryd.func54 rfl Tryd.ntmps54 rfl ?_
      intro w0 hw0
      refine T.seq ?_
      refine T.region ?_
      refine SL.x (op_box rfl) rfl rfl ?_
      rintro _ _ _ ⟨B1, rfl, rfl, rfl⟩
      refine SL.y (op_assign rfl) rfl rfl ?_
      refine SL.nil ?_
      refine T.seq ?_
      refine T.seq ?_
      refine T.region ?_
      refine SL.y (op_fieldAddr fa27_0 rfl) rfl rfl ?_
      first | refine SL.y (op_load ty3 rfl (by repeat (first | exact AtO.here | apply AtO.there)) rfl) rfl rfl ?_ | refine SL.y (op_loadX ty3 rfl (by assumption) rfl) rfl rfl ?_
      refine SL.nil ?_
      refine T.block ?_
      refine T.seq ?_
      refine T.region ?_
      first | refine SL.y (op_eqlT rfl rfl (by omega)) rfl rfl ?_ | refine SL.y (op_eqlF rfl rfl (by omega)) rfl rfl ?_ | refine SL.y (op_eql rfl rfl) rfl rfl ?_
      refine SL.y (op_assign rfl) rfl rfl ?_
      refine SL.nil ?_
      refine T.condF rfl ?_
      refine T.seq ?_
      refine T.region ?_
      first | refine SL.y (op_eqlT rfl rfl (by omega)) rfl rfl ?_ | refine SL.y (op_eqlF rfl rfl (by omega)) rfl rfl ?_ | refine SL.y (op_eql rfl rfl) rfl rfl ?_
      refine SL.y (op_assign rfl) rfl rfl ?_
      refine SL.nil ?_
      refine T.condF rfl ?_
      refine T.seq ?_
      refine T.region ?_
      first | refine SL.y (op_eqlT rfl rfl (by omega)) rfl rfl ?_ | refine SL.y (op_eqlF rfl rfl (by omega)) rfl rfl ?_ | refine SL.y (op_eql rfl rfl) rfl rfl ?_
      refine SL.y (op_assign rfl) rfl rfl ?_
      refine SL.nil ?_
      refine T.condF rfl ?_
      refine T.seq ?_
      refine T.region ?_
      first | refine SL.y (op_eqlT rfl rfl (by omega)) rfl rfl ?_ | refine SL.y (op_eqlF rfl rfl (by omega)) rfl rfl ?_ | refine SL.y (op_eql rfl rfl) rfl rfl ?_
      refine SL.y (op_assign rfl) rfl rfl ?_
      refine SL.nil ?_
      refine T.condF rfl ?_
      refine T.seq ?_
      refine T.region ?_
      first | refine SL.y (op_eqlT rfl rfl (by omega)) rfl rfl ?_ | refine SL.y (op_eqlF rfl rfl (by omega)) rfl rfl ?_ | refine SL.y (op_eql rfl rfl) rfl rfl ?_
      refine SL.y (op_assign rfl) rfl rfl ?_
      refine SL.nil ?_
      refine T.condF rfl ?_
      refine T.seq ?_
      refine T.region ?_
      first | refine SL.y (op_eqlT rfl rfl (by omega)) rfl rfl ?_ | refine SL.y (op_eqlF rfl rfl (by omega)) rfl rfl ?_ | refine SL.y (op_eql rfl rfl) rfl rfl ?_
      refine SL.y (op_assign rfl) rfl rfl ?_
      refine SL.nil ?_
      refine T.condF rfl ?_
      refine T.seq ?_
      refine T.region ?_
      first | refine SL.y (op_eqlT rfl rfl (by omega)) rfl rfl ?_ | refine SL.y (op_eqlF rfl rfl (by omega)) rfl rfl ?_ | refine SL.y (op_eql rfl rfl) rfl rfl ?_
      refine SL.y (op_assign rfl) rfl rfl ?_
      refine SL.nil ?_
      refine T.condT rfl ?_
      refine T.seq ?_
      refine T.region ?_
      refine SL.y (op_fieldAddr fa27_3 rfl) rfl rfl ?_
      first | refine SL.y (op_load ty25 rfl (by repeat (first | exact AtO.here | apply AtO.there)) rfl) rfl rfl ?_ | refine SL.y (op_loadX ty25 rfl (by assumption) rfl) rfl rfl ?_
      first | refine SL.y (op_indexN Tryd.underlying25 ty27 rfl rfl (by omega)) rfl rfl ?_ | refine SL.y (op_index Tryd.underlying25 ty27 rfl rfl (by omega) (by omega)) rfl rfl ?_
      -- to 43: op
      refine SL.y (op_loadX ty27 rfl hbA (row_read rc4_len (rs := [_]) (k := 0) rfl (by omega))) rfl rfl ?_
      -- op
      refine SL.x (op_callF en87 (vs := [_, _]) rfl (hopd (least := 4) hwa hna hra)) rfl rfl ?_
      rintro _ _ X2 ⟨rfl, hX2, rfl⟩
      refine SL.y (op_addStr rfl rfl (by first | omega | (simp only [ByteArray.size_append]; omega))) rfl rfl ?_
      refine SL.y (op_assign rfl) rfl rfl ?_
      refine SL.nil ?_
      -- ret
      refine T.ret1 rfl (ResIs.tmp rfl) ?_
      rw [textE, if_neg c1, if_neg c2, if_neg c3, if_neg c4, if_neg c5, if_neg c6, textL, textL]
    have hal : al.length = 2 := by rw [o3, argN, if_neg (by omega), if_neg c7]
    obtain ⟨a, a2, rfl⟩ : ∃ a a2, al = [a, a2] := by
      match al, hal with
      | [a, b], _ => exact ⟨a, b, rfl⟩
    obtain ⟨ra, rb, rfl⟩ : ∃ ra rb, rows = [ra, rb] := by
      match rows, hl with
      | [ra, rb], _ => exact ⟨ra, rb, rfl⟩
    have hra := hr 0 a ra rfl rfl
    have hrb := hr 1 a2 rb rfl rfl
    obtain ⟨bA, pre, rfl, hbA⟩ := ha.blk (by simp)
    obtain ⟨_, _, _, _, _, _, _, _, rfl⟩ := hra.form
    obtain ⟨_, _, _, _, _, _, _, _, rfl⟩ := hrb.form
    have hna := nodeL_zero hargs a (by simp)
    have hnb := nodeL_zero hargs a2 (by simp)
    have hwa : wtE a ≤ N ∧ wtE a2 ≤ N := by rw [wtL, wtL, wtL] at hN; omega
    have hts := text_size a
    have hts2 := text_size a2
    have hps := fun k => parB_size (strN a.op) (textE a) k
    have hps2 := fun k => parB_size (strN a2.op) (textE a2) k
    have hps3 := hps (lefN op)
    have hps4 := hps2 (rigN op)
    have hsg := sgnB_size op
    have hs7 := strN_le op
    have hsn := strsC_at (signs9_at (op := op) (by omega) o2)
    have hfin : textE (.mk op n ns [a, a2]) = parB (strN a.op) (textE a) (lefN op) ++ wordB op ++ parB (strN a2.op) (textE a2) (rigN op) := by
      rw [textE, if_neg c1, if_neg c2, if_neg c3, if_neg c4, if_neg c5, if_neg c6, textL, textL, textL]
    rw [hfin, ← sgn_word (by omega) o2]
    by_cases c10 : op = 10
    · have el : lefN op = 2 := by rw [c10]; rfl
      have er : rigN op = 1 := by rw [c10]; rfl
      rw [el] at hps3
      rw [er] at hps4
      rw [el, er]
      refine Spec.enter Tryd.func54 rfl Tryd.ntmps54 rfl ?_
      intro w0 hw0
      refine T.seq ?_
      refine T.region ?_
      refine SL.x (op_box rfl) rfl rfl ?_
      rintro _ _ _ ⟨B1, rfl, rfl, rfl⟩
      refine SL.y (op_assign rfl) rfl rfl ?_
      refine SL.nil ?_
      refine T.seq ?_
      refine T.seq ?_
      refine T.region ?_
      refine SL.y (op_fieldAddr fa27_0 rfl) rfl rfl ?_
      first | refine SL.y (op_load ty3 rfl (by repeat (first | exact AtO.here | apply AtO.there)) rfl) rfl rfl ?_ | refine SL.y (op_loadX ty3 rfl (by assumption) rfl) rfl rfl ?_
      refine SL.nil ?_
      refine T.block ?_
      refine T.seq ?_
      refine T.region ?_
      first | refine SL.y (op_eqlT rfl rfl (by omega)) rfl rfl ?_ | refine SL.y (op_eqlF rfl rfl (by omega)) rfl rfl ?_ | refine SL.y (op_eql rfl rfl) rfl rfl ?_
      refine SL.y (op_assign rfl) rfl rfl ?_
      refine SL.nil ?_
      refine T.condF rfl ?_
      refine T.seq ?_
      refine T.region ?_
      first | refine SL.y (op_eqlT rfl rfl (by omega)) rfl rfl ?_ | refine SL.y (op_eqlF rfl rfl (by omega)) rfl rfl ?_ | refine SL.y (op_eql rfl rfl) rfl rfl ?_
      refine SL.y (op_assign rfl) rfl rfl ?_
      refine SL.nil ?_
      refine T.condF rfl ?_
      refine T.seq ?_
      refine T.region ?_
      first | refine SL.y (op_eqlT rfl rfl (by omega)) rfl rfl ?_ | refine SL.y (op_eqlF rfl rfl (by omega)) rfl rfl ?_ | refine SL.y (op_eql rfl rfl) rfl rfl ?_
      refine SL.y (op_assign rfl) rfl rfl ?_
      refine SL.nil ?_
      refine T.condF rfl ?_
      refine T.seq ?_
      refine T.region ?_
      first | refine SL.y (op_eqlT rfl rfl (by omega)) rfl rfl ?_ | refine SL.y (op_eqlF rfl rfl (by omega)) rfl rfl ?_ | refine SL.y (op_eql rfl rfl) rfl rfl ?_
      refine SL.y (op_assign rfl) rfl rfl ?_
      refine SL.nil ?_
      refine T.condF rfl ?_
      refine T.seq ?_
      refine T.region ?_
      first | refine SL.y (op_eqlT rfl rfl (by omega)) rfl rfl ?_ | refine SL.y (op_eqlF rfl rfl (by omega)) rfl rfl ?_ | refine SL.y (op_eql rfl rfl) rfl rfl ?_
      refine SL.y (op_assign rfl) rfl rfl ?_
      refine SL.nil ?_
      refine T.condF rfl ?_
      refine T.seq ?_
      refine T.region ?_
      first | refine SL.y (op_eqlT rfl rfl (by omega)) rfl rfl ?_ | refine SL.y (op_eqlF rfl rfl (by omega)) rfl rfl ?_ | refine SL.y (op_eql rfl rfl) rfl rfl ?_
      refine SL.y (op_assign rfl) rfl rfl ?_
      refine SL.nil ?_
      refine T.condF rfl ?_
      refine T.seq ?_
      refine T.region ?_
      first | refine SL.y (op_eqlT rfl rfl (by omega)) rfl rfl ?_ | refine SL.y (op_eqlF rfl rfl (by omega)) rfl rfl ?_ | refine SL.y (op_eql rfl rfl) rfl rfl ?_
      refine SL.y (op_assign rfl) rfl rfl ?_
      refine SL.nil ?_
      refine T.condF rfl ?_
      refine T.skip ?_
      refine T.blk ?_
      refine T.seq ?_
      refine T.region ?_
      refine SL.x (op_buildSlice Tryd.underlying24 bs9 (qs := [(0, _), (1, _), (2, _), (3, _), (4, _), (5, _), (6, _), (7, _), (8, _)]) rfl rfl rfl rfl rfl) rfl rfl ?_
      rintro _ _ _ ⟨B46, rfl, rfl, rfl⟩
      refine SL.y (op_fieldAddr fa27_0 rfl) rfl rfl ?_
      first | refine SL.y (op_load ty3 rfl (by repeat (first | exact AtO.here | apply AtO.there)) rfl) rfl rfl ?_ | refine SL.y (op_loadX ty3 rfl (by assumption) rfl) rfl rfl ?_
      first | refine SL.y (op_subN (q := 8) rfl rfl (by omega) (by omega)) rfl rfl ?_ | refine SL.y (op_sub rfl rfl (by omega) (by omega)) rfl rfl ?_ | refine SL.y (op_subW rfl rfl) rfl rfl ?_
      first | refine SL.y (op_indexN Tryd.underlying24 ty9 rfl rfl (by omega)) rfl rfl ?_ | refine SL.y (op_index Tryd.underlying24 ty9 rfl rfl (by omega) (by omega)) rfl rfl ?_
      -- to 51: op
      refine SL.y (op_load ty9 rfl (by repeat (first | exact AtO.here | apply AtO.there)) (cread1k' hsn (by omega))) rfl rfl ?_
      refine SL.y (op_assign rfl) rfl rfl ?_
      refine SL.nil ?_
      refine T.seq ?_
      refine T.draw (by kernel_rfl) 9 [.t 0, .t 1, .t 3, .t 4, .r 2, .r 5, .t 6, .t 7, .t 8] (by kernel_rfl) ?_
      refine SD.take rfl panicBody (op_fieldAddr fa27_0 rfl) rfl rfl ?_
      first | refine SD.take rfl panicBody (op_load ty3 rfl (by repeat (first | exact AtO.here | apply AtO.there)) rfl) rfl rfl ?_ | refine SD.take rfl panicBody (op_loadX ty3 rfl (by assumption) rfl) rfl rfl ?_
      refine SD.take rfl panicBody (op_fieldAddr fa27_0 rfl) rfl rfl ?_
      first | refine SD.take rfl panicBody (op_load ty3 rfl (by repeat (first | exact AtO.here | apply AtO.there)) rfl) rfl rfl ?_ | refine SD.take rfl panicBody (op_loadX ty3 rfl (by assumption) rfl) rfl rfl ?_
      -- op
      refine SD.run rfl (op_callF en88 (vs := [_]) rfl (binds_spec (op := op))) rfl rfl ?_
      rintro _ _ X1 ⟨rfl, hX1, rfl⟩
      -- op
      refine SD.run rfl (op_callF en88 (vs := [_]) rfl (binds_spec (op := op))) rfl rfl ?_
      rintro _ _ X2 ⟨rfl, hX2, rfl⟩
      first | refine SD.take rfl panicBody (op_addN (q := 1) rfl rfl (by omega)) rfl rfl ?_ | refine SD.take rfl panicBody (op_add rfl rfl (by omega) (by omega)) rfl rfl ?_ | refine SD.take rfl panicBody (op_addW rfl rfl) rfl rfl ?_
      refine SD.take rfl panicBody (op_assign rfl) rfl rfl ?_
      refine SD.take rfl panicBody (op_assign rfl) rfl rfl ?_
      refine SD.nil ?_
      show SL _ _ _ _ _ _ _ [] _ _ _
      refine SL.nil ?_
      refine T.seq ?_
      refine T.seq ?_
      refine T.region ?_
      refine SL.y (op_fieldAddr fa27_0 rfl) rfl rfl ?_
      first | refine SL.y (op_load ty3 rfl (by repeat (first | exact AtO.here | apply AtO.there)) rfl) rfl rfl ?_ | refine SL.y (op_loadX ty3 rfl (by assumption) rfl) rfl rfl ?_
      first | refine SL.y (op_eqlT rfl rfl (by omega)) rfl rfl ?_ | refine SL.y (op_eqlF rfl rfl (by omega)) rfl rfl ?_ | refine SL.y (op_eql rfl rfl) rfl rfl ?_
      refine SL.nil ?_
      refine T.condT rfl ?_
      refine T.region ?_
      refine SL.y (op_assign (v := .int .i64 ((2 : Nat) : Int)) rfl) rfl rfl ?_
      refine SL.y (op_assign (v := .int .i64 ((1 : Nat) : Int)) rfl) rfl rfl ?_
      refine SL.nil ?_
      refine T.seq ?_
      refine T.seq ?_
      refine T.region ?_
      refine SL.y (op_fieldAddr fa27_0 rfl) rfl rfl ?_
      first | refine SL.y (op_load ty3 rfl (by repeat (first | exact AtO.here | apply AtO.there)) rfl) rfl rfl ?_ | refine SL.y (op_loadX ty3 rfl (by assumption) rfl) rfl rfl ?_
      first | refine SL.y (op_geqT rfl rfl (by omega)) rfl rfl ?_ | refine SL.y (op_geqF rfl rfl (by omega)) rfl rfl ?_ | refine SL.y (op_geq rfl rfl) rfl rfl ?_
      refine SL.y (op_move rfl) rfl rfl ?_
      first | refine SL.skip rfl rfl ?_ | refine SL.y (op_fieldAddr fa27_0 rfl) rfl rfl ?_
      first | refine SL.skip rfl rfl ?_ | refine SL.y (op_load ty3 rfl (by repeat (first | exact AtO.here | apply AtO.there)) rfl) rfl rfl ?_ | refine SL.y (op_loadX ty3 rfl (by assumption) rfl) rfl rfl ?_
      first | refine SL.skip rfl rfl ?_ | refine SL.y (op_leqT rfl rfl (by omega)) rfl rfl ?_ | refine SL.y (op_leqF rfl rfl (by omega)) rfl rfl ?_ | refine SL.y (op_leq rfl rfl) rfl rfl ?_
      first | refine SL.y (op_pickT rfl rfl) rfl rfl ?_ | refine SL.y (op_pickF rfl rfl) rfl rfl ?_ | refine SL.y (op_pickB rfl rfl rfl) rfl rfl ?_
      refine SL.nil ?_
      refine T.condF rfl ?_
      refine T.skip ?_
      refine T.seq ?_
      refine T.draw (by kernel_rfl) 18 [.t 0, .t 1, .t 2, .t 3, .t 4, .t 7, .t 10, .t 11, .t 12, .t 13, .t 14, .r 5, .t 6, .t 8, .t 9, .r 15, .t 16, .t 17] (by kernel_rfl) ?_
      refine SD.take rfl panicBody (op_fieldAddr fa27_3 rfl) rfl rfl ?_
      first | refine SD.take rfl panicBody (op_load ty25 rfl (by repeat (first | exact AtO.here | apply AtO.there)) rfl) rfl rfl ?_ | refine SD.take rfl panicBody (op_loadX ty25 rfl (by assumption) rfl) rfl rfl ?_
      first | refine SD.take rfl panicBody (op_indexN Tryd.underlying25 ty27 rfl rfl (by omega)) rfl rfl ?_ | refine SD.take rfl panicBody (op_index Tryd.underlying25 ty27 rfl rfl (by omega) (by omega)) rfl rfl ?_
      -- to 73: op
      refine SD.take rfl panicBody (op_loadX ty27 rfl (hbA.mono (hX1.trans' hX2)) (row_read rc4_len (rs := [_, _]) (k := 0) rfl (by omega))) rfl rfl ?_
      refine SD.take rfl panicBody (op_move rfl) rfl rfl ?_
      refine SD.take rfl panicBody (op_move rfl) rfl rfl ?_
      refine SD.take rfl panicBody (op_fieldAddr fa27_3 rfl) rfl rfl ?_
      first | refine SD.take rfl panicBody (op_load ty25 rfl (by repeat (first | exact AtO.here | apply AtO.there)) rfl) rfl rfl ?_ | refine SD.take rfl panicBody (op_loadX ty25 rfl (by assumption) rfl) rfl rfl ?_
      first | refine SD.take rfl panicBody (op_indexN Tryd.underlying25 ty27 rfl rfl (by omega)) rfl rfl ?_ | refine SD.take rfl panicBody (op_index Tryd.underlying25 ty27 rfl rfl (by omega) (by omega)) rfl rfl ?_
      -- to 83: op
      refine SD.take rfl panicBody (op_loadX ty27 rfl (hbA.mono (hX1.trans' hX2)) (row_read rc4_len (rs := [_, _]) (k := 1) rfl (by omega))) rfl rfl ?_
      refine SD.take rfl panicBody (op_move rfl) rfl rfl ?_
      -- op
      refine SD.run rfl (op_callF en87 (vs := [_, _]) rfl (hopd (least := 2) hwa.1 hna (hra.mono (hX1.trans' hX2)))) rfl rfl ?_
      rintro _ _ X3 ⟨rfl, hX3, rfl⟩
      refine SD.take rfl panicBody (op_addStr rfl rfl (by first | omega | (simp only [ByteArray.size_append]; omega))) rfl rfl ?_
      refine SD.take rfl panicBody (op_addStr rfl rfl (by first | omega | (simp only [ByteArray.size_append]; omega))) rfl rfl ?_
      refine SD.take rfl panicBody (op_addStr rfl rfl (by first | omega | (simp only [ByteArray.size_append]; omega))) rfl rfl ?_
      -- op
      refine SD.run rfl (op_callF en87 (vs := [_, _]) rfl (hopd (least := 1) hwa.2 hnb ((hrb.mono (hX1.trans' hX2)).mono hX3))) rfl rfl ?_
      rintro _ _ X5 ⟨rfl, hX5, rfl⟩
      refine SD.take rfl panicBody (op_addStr rfl rfl (by first | omega | (simp only [ByteArray.size_append]; omega))) rfl rfl ?_
      refine SD.take rfl panicBody (op_assign rfl) rfl rfl ?_
      refine SD.nil ?_
      show SL _ _ _ _ _ _ _ [] _ _ _
      refine SL.nil ?_
      -- ret
      refine T.ret1 rfl (ResIs.tmp rfl) ?_
      rfl
    by_cases c5s : 11 ≤ op ∧ op ≤ 15
    · have h5 : strN op = 5 := by unfold strN; rw [if_neg (by omega), if_neg (by omega), if_neg (by omega), if_neg (by omega), if_pos (by omega)]
      have el : lefN op = 6 := by rw [lefN, if_neg c10, if_pos h5, h5]
      have er : rigN op = 6 := by rw [rigN, if_neg c10, h5]
      rw [el] at hps3
      rw [er] at hps4
      rw [el, er]
      obtain ⟨g1, g2⟩ := c5s
      refine Spec.enter Tryd.func54 rfl Tryd.ntmps54 rfl ?_
      intro w0 hw0
      refine T.seq ?_
      refine T.region ?_
      refine SL.x (op_box rfl) rfl rfl ?_
      rintro _ _ _ ⟨B1, rfl, rfl, rfl⟩
      refine SL.y (op_assign rfl) rfl rfl ?_
      refine SL.nil ?_
      refine T.seq ?_
      refine T.seq ?_
      refine T.region ?_
      refine SL.y (op_fieldAddr fa27_0 rfl) rfl rfl ?_
      first | refine SL.y (op_load ty3 rfl (by repeat (first | exact AtO.here | apply AtO.there)) rfl) rfl rfl ?_ | refine SL.y (op_loadX ty3 rfl (by assumption) rfl) rfl rfl ?_
      refine SL.nil ?_
      refine T.block ?_
      refine T.seq ?_
      refine T.region ?_
      first | refine SL.y (op_eqlT rfl rfl (by omega)) rfl rfl ?_ | refine SL.y (op_eqlF rfl rfl (by omega)) rfl rfl ?_ | refine SL.y (op_eql rfl rfl) rfl rfl ?_
      refine SL.y (op_assign rfl) rfl rfl ?_
      refine SL.nil ?_
      refine T.condF rfl ?_
      refine T.seq ?_
      refine T.region ?_
      first | refine SL.y (op_eqlT rfl rfl (by omega)) rfl rfl ?_ | refine SL.y (op_eqlF rfl rfl (by omega)) rfl rfl ?_ | refine SL.y (op_eql rfl rfl) rfl rfl ?_
      refine SL.y (op_assign rfl) rfl rfl ?_
      refine SL.nil ?_
      refine T.condF rfl ?_
      refine T.seq ?_
      refine T.region ?_
      first | refine SL.y (op_eqlT rfl rfl (by omega)) rfl rfl ?_ | refine SL.y (op_eqlF rfl rfl (by omega)) rfl rfl ?_ | refine SL.y (op_eql rfl rfl) rfl rfl ?_
      refine SL.y (op_assign rfl) rfl rfl ?_
      refine SL.nil ?_
      refine T.condF rfl ?_
      refine T.seq ?_
      refine T.region ?_
      first | refine SL.y (op_eqlT rfl rfl (by omega)) rfl rfl ?_ | refine SL.y (op_eqlF rfl rfl (by omega)) rfl rfl ?_ | refine SL.y (op_eql rfl rfl) rfl rfl ?_
      refine SL.y (op_assign rfl) rfl rfl ?_
      refine SL.nil ?_
      refine T.condF rfl ?_
      refine T.seq ?_
      refine T.region ?_
      first | refine SL.y (op_eqlT rfl rfl (by omega)) rfl rfl ?_ | refine SL.y (op_eqlF rfl rfl (by omega)) rfl rfl ?_ | refine SL.y (op_eql rfl rfl) rfl rfl ?_
      refine SL.y (op_assign rfl) rfl rfl ?_
      refine SL.nil ?_
      refine T.condF rfl ?_
      refine T.seq ?_
      refine T.region ?_
      first | refine SL.y (op_eqlT rfl rfl (by omega)) rfl rfl ?_ | refine SL.y (op_eqlF rfl rfl (by omega)) rfl rfl ?_ | refine SL.y (op_eql rfl rfl) rfl rfl ?_
      refine SL.y (op_assign rfl) rfl rfl ?_
      refine SL.nil ?_
      refine T.condF rfl ?_
      refine T.seq ?_
      refine T.region ?_
      first | refine SL.y (op_eqlT rfl rfl (by omega)) rfl rfl ?_ | refine SL.y (op_eqlF rfl rfl (by omega)) rfl rfl ?_ | refine SL.y (op_eql rfl rfl) rfl rfl ?_
      refine SL.y (op_assign rfl) rfl rfl ?_
      refine SL.nil ?_
      refine T.condF rfl ?_
      refine T.skip ?_
      refine T.blk ?_
      refine T.seq ?_
      refine T.region ?_
      refine SL.x (op_buildSlice Tryd.underlying24 bs9 (qs := [(0, _), (1, _), (2, _), (3, _), (4, _), (5, _), (6, _), (7, _), (8, _)]) rfl rfl rfl rfl rfl) rfl rfl ?_
      rintro _ _ _ ⟨B46, rfl, rfl, rfl⟩
      refine SL.y (op_fieldAddr fa27_0 rfl) rfl rfl ?_
      first | refine SL.y (op_load ty3 rfl (by repeat (first | exact AtO.here | apply AtO.there)) rfl) rfl rfl ?_ | refine SL.y (op_loadX ty3 rfl (by assumption) rfl) rfl rfl ?_
      first | refine SL.y (op_subN (q := 8) rfl rfl (by omega) (by omega)) rfl rfl ?_ | refine SL.y (op_sub rfl rfl (by omega) (by omega)) rfl rfl ?_ | refine SL.y (op_subW rfl rfl) rfl rfl ?_
      first | refine SL.y (op_indexN Tryd.underlying24 ty9 rfl rfl (by omega)) rfl rfl ?_ | refine SL.y (op_index Tryd.underlying24 ty9 rfl rfl (by omega) (by omega)) rfl rfl ?_
      -- to 51: op
      refine SL.y (op_load ty9 rfl (by repeat (first | exact AtO.here | apply AtO.there)) (cread1k' hsn (by omega))) rfl rfl ?_
      refine SL.y (op_assign rfl) rfl rfl ?_
      refine SL.nil ?_
      refine T.seq ?_
      refine T.draw (by kernel_rfl) 9 [.t 0, .t 1, .t 3, .t 4, .r 2, .r 5, .t 6, .t 7, .t 8] (by kernel_rfl) ?_
      refine SD.take rfl panicBody (op_fieldAddr fa27_0 rfl) rfl rfl ?_
      first | refine SD.take rfl panicBody (op_load ty3 rfl (by repeat (first | exact AtO.here | apply AtO.there)) rfl) rfl rfl ?_ | refine SD.take rfl panicBody (op_loadX ty3 rfl (by assumption) rfl) rfl rfl ?_
      refine SD.take rfl panicBody (op_fieldAddr fa27_0 rfl) rfl rfl ?_
      first | refine SD.take rfl panicBody (op_load ty3 rfl (by repeat (first | exact AtO.here | apply AtO.there)) rfl) rfl rfl ?_ | refine SD.take rfl panicBody (op_loadX ty3 rfl (by assumption) rfl) rfl rfl ?_
      -- op
      refine SD.run rfl (op_callF en88 (vs := [_]) rfl (binds_spec (op := op))) rfl rfl ?_
      rintro _ _ X1 ⟨rfl, hX1, rfl⟩
      -- op
      refine SD.run rfl (op_callF en88 (vs := [_]) rfl (binds_spec (op := op))) rfl rfl ?_
      rintro _ _ X2 ⟨rfl, hX2, rfl⟩
      rw [h5]
      first | refine SD.take rfl panicBody (op_addN (q := 1) rfl rfl (by omega)) rfl rfl ?_ | refine SD.take rfl panicBody (op_add rfl rfl (by omega) (by omega)) rfl rfl ?_ | refine SD.take rfl panicBody (op_addW rfl rfl) rfl rfl ?_
      refine SD.take rfl panicBody (op_assign rfl) rfl rfl ?_
      refine SD.take rfl panicBody (op_assign rfl) rfl rfl ?_
      refine SD.nil ?_
      show SL _ _ _ _ _ _ _ [] _ _ _
      refine SL.nil ?_
      refine T.seq ?_
      refine T.seq ?_
      refine T.region ?_
      refine SL.y (op_fieldAddr fa27_0 rfl) rfl rfl ?_
      first | refine SL.y (op_load ty3 rfl (by repeat (first | exact AtO.here | apply AtO.there)) rfl) rfl rfl ?_ | refine SL.y (op_loadX ty3 rfl (by assumption) rfl) rfl rfl ?_
      first | refine SL.y (op_eqlT rfl rfl (by omega)) rfl rfl ?_ | refine SL.y (op_eqlF rfl rfl (by omega)) rfl rfl ?_ | refine SL.y (op_eql rfl rfl) rfl rfl ?_
      refine SL.nil ?_
      refine T.condF rfl ?_
      refine T.skip ?_
      refine T.seq ?_
      refine T.seq ?_
      refine T.region ?_
      refine SL.y (op_fieldAddr fa27_0 rfl) rfl rfl ?_
      first | refine SL.y (op_load ty3 rfl (by repeat (first | exact AtO.here | apply AtO.there)) rfl) rfl rfl ?_ | refine SL.y (op_loadX ty3 rfl (by assumption) rfl) rfl rfl ?_
      first | refine SL.y (op_geqT rfl rfl (by omega)) rfl rfl ?_ | refine SL.y (op_geqF rfl rfl (by omega)) rfl rfl ?_ | refine SL.y (op_geq rfl rfl) rfl rfl ?_
      refine SL.y (op_move rfl) rfl rfl ?_
      first | refine SL.skip rfl rfl ?_ | refine SL.y (op_fieldAddr fa27_0 rfl) rfl rfl ?_
      first | refine SL.skip rfl rfl ?_ | refine SL.y (op_load ty3 rfl (by repeat (first | exact AtO.here | apply AtO.there)) rfl) rfl rfl ?_ | refine SL.y (op_loadX ty3 rfl (by assumption) rfl) rfl rfl ?_
      first | refine SL.skip rfl rfl ?_ | refine SL.y (op_leqT rfl rfl (by omega)) rfl rfl ?_ | refine SL.y (op_leqF rfl rfl (by omega)) rfl rfl ?_ | refine SL.y (op_leq rfl rfl) rfl rfl ?_
      first | refine SL.y (op_pickT rfl rfl) rfl rfl ?_ | refine SL.y (op_pickF rfl rfl) rfl rfl ?_ | refine SL.y (op_pickB rfl rfl rfl) rfl rfl ?_
      refine SL.nil ?_
      refine T.condT rfl ?_
      refine T.region ?_
      refine SL.y (op_assign (v := .int .i64 ((6 : Nat) : Int)) rfl) rfl rfl ?_
      refine SL.nil ?_
      refine T.seq ?_
      refine T.draw (by kernel_rfl) 18 [.t 0, .t 1, .t 2, .t 3, .t 4, .t 7, .t 10, .t 11, .t 12, .t 13, .t 14, .r 5, .t 6, .t 8, .t 9, .r 15, .t 16, .t 17] (by kernel_rfl) ?_
      refine SD.take rfl panicBody (op_fieldAddr fa27_3 rfl) rfl rfl ?_
      first | refine SD.take rfl panicBody (op_load ty25 rfl (by repeat (first | exact AtO.here | apply AtO.there)) rfl) rfl rfl ?_ | refine SD.take rfl panicBody (op_loadX ty25 rfl (by assumption) rfl) rfl rfl ?_
      first | refine SD.take rfl panicBody (op_indexN Tryd.underlying25 ty27 rfl rfl (by omega)) rfl rfl ?_ | refine SD.take rfl panicBody (op_index Tryd.underlying25 ty27 rfl rfl (by omega) (by omega)) rfl rfl ?_
      -- to 73: op
      refine SD.take rfl panicBody (op_loadX ty27 rfl (hbA.mono (hX1.trans' hX2)) (row_read rc4_len (rs := [_, _]) (k := 0) rfl (by omega))) rfl rfl ?_
      refine SD.take rfl panicBody (op_move rfl) rfl rfl ?_
      refine SD.take rfl panicBody (op_move rfl) rfl rfl ?_
      refine SD.take rfl panicBody (op_fieldAddr fa27_3 rfl) rfl rfl ?_
      first | refine SD.take rfl panicBody (op_load ty25 rfl (by repeat (first | exact AtO.here | apply AtO.there)) rfl) rfl rfl ?_ | refine SD.take rfl panicBody (op_loadX ty25 rfl (by assumption) rfl) rfl rfl ?_
      first | refine SD.take rfl panicBody (op_indexN Tryd.underlying25 ty27 rfl rfl (by omega)) rfl rfl ?_ | refine SD.take rfl panicBody (op_index Tryd.underlying25 ty27 rfl rfl (by omega) (by omega)) rfl rfl ?_
      -- to 83: op
      refine SD.take rfl panicBody (op_loadX ty27 rfl (hbA.mono (hX1.trans' hX2)) (row_read rc4_len (rs := [_, _]) (k := 1) rfl (by omega))) rfl rfl ?_
      refine SD.take rfl panicBody (op_move rfl) rfl rfl ?_
      -- op
      refine SD.run rfl (op_callF en87 (vs := [_, _]) rfl (hopd (least := 6) hwa.1 hna (hra.mono (hX1.trans' hX2)))) rfl rfl ?_
      rintro _ _ X3 ⟨rfl, hX3, rfl⟩
      refine SD.take rfl panicBody (op_addStr rfl rfl (by first | omega | (simp only [ByteArray.size_append]; omega))) rfl rfl ?_
      refine SD.take rfl panicBody (op_addStr rfl rfl (by first | omega | (simp only [ByteArray.size_append]; omega))) rfl rfl ?_
      refine SD.take rfl panicBody (op_addStr rfl rfl (by first | omega | (simp only [ByteArray.size_append]; omega))) rfl rfl ?_
      -- op
      refine SD.run rfl (op_callF en87 (vs := [_, _]) rfl (hopd (least := 6) hwa.2 hnb ((hrb.mono (hX1.trans' hX2)).mono hX3))) rfl rfl ?_
      rintro _ _ X5 ⟨rfl, hX5, rfl⟩
      refine SD.take rfl panicBody (op_addStr rfl rfl (by first | omega | (simp only [ByteArray.size_append]; omega))) rfl rfl ?_
      refine SD.take rfl panicBody (op_assign rfl) rfl rfl ?_
      refine SD.nil ?_
      show SL _ _ _ _ _ _ _ [] _ _ _
      refine SL.nil ?_
      -- ret
      refine T.ret1 rfl (ResIs.tmp rfl) ?_
      rfl
    · have h5 : ¬strN op = 5 := by
        rcases (by omega : op = 8 ∨ op = 9 ∨ op = 16) with rfl | rfl | rfl <;> decide
      have el : lefN op = strN op := by rw [lefN, if_neg c10, if_neg h5]
      have er : rigN op = strN op + 1 := if_neg c10
      rw [el] at hps3
      rw [er] at hps4
      rw [el, er]
      by_cases g1 : 11 ≤ op
      · have g2 : ¬op ≤ 15 := fun h => c5s ⟨g1, h⟩
        refine Spec.enter Tryd.func54 rfl Tryd.ntmps54 rfl ?_
        intro w0 hw0
        refine T.seq ?_
        refine T.region ?_
        refine SL.x (op_box rfl) rfl rfl ?_
        rintro _ _ _ ⟨B1, rfl, rfl, rfl⟩
        refine SL.y (op_assign rfl) rfl rfl ?_
        refine SL.nil ?_
        refine T.seq ?_
        refine T.seq ?_
        refine T.region ?_
        refine SL.y (op_fieldAddr fa27_0 rfl) rfl rfl ?_
        first | refine SL.y (op_load ty3 rfl (by repeat (first | exact AtO.here | apply AtO.there)) rfl) rfl rfl ?_ | refine SL.y (op_loadX ty3 rfl (by assumption) rfl) rfl rfl ?_
        refine SL.nil ?_
        refine T.block ?_
        refine T.seq ?_
        refine T.region ?_
        first | refine SL.y (op_eqlT rfl rfl (by omega)) rfl rfl ?_ | refine SL.y (op_eqlF rfl rfl (by omega)) rfl rfl ?_ | refine SL.y (op_eql rfl rfl) rfl rfl ?_
        refine SL.y (op_assign rfl) rfl rfl ?_
        refine SL.nil ?_
        refine T.condF rfl ?_
        refine T.seq ?_
        refine T.region ?_
        first | refine SL.y (op_eqlT rfl rfl (by omega)) rfl rfl ?_ | refine SL.y (op_eqlF rfl rfl (by omega)) rfl rfl ?_ | refine SL.y (op_eql rfl rfl) rfl rfl ?_
        refine SL.y (op_assign rfl) rfl rfl ?_
        refine SL.nil ?_
        refine T.condF rfl ?_
        refine T.seq ?_
        refine T.region ?_
        first | refine SL.y (op_eqlT rfl rfl (by omega)) rfl rfl ?_ | refine SL.y (op_eqlF rfl rfl (by omega)) rfl rfl ?_ | refine SL.y (op_eql rfl rfl) rfl rfl ?_
        refine SL.y (op_assign rfl) rfl rfl ?_
        refine SL.nil ?_
        refine T.condF rfl ?_
        refine T.seq ?_
        refine T.region ?_
        first | refine SL.y (op_eqlT rfl rfl (by omega)) rfl rfl ?_ | refine SL.y (op_eqlF rfl rfl (by omega)) rfl rfl ?_ | refine SL.y (op_eql rfl rfl) rfl rfl ?_
        refine SL.y (op_assign rfl) rfl rfl ?_
        refine SL.nil ?_
        refine T.condF rfl ?_
        refine T.seq ?_
        refine T.region ?_
        first | refine SL.y (op_eqlT rfl rfl (by omega)) rfl rfl ?_ | refine SL.y (op_eqlF rfl rfl (by omega)) rfl rfl ?_ | refine SL.y (op_eql rfl rfl) rfl rfl ?_
        refine SL.y (op_assign rfl) rfl rfl ?_
        refine SL.nil ?_
        refine T.condF rfl ?_
        refine T.seq ?_
        refine T.region ?_
        first | refine SL.y (op_eqlT rfl rfl (by omega)) rfl rfl ?_ | refine SL.y (op_eqlF rfl rfl (by omega)) rfl rfl ?_ | refine SL.y (op_eql rfl rfl) rfl rfl ?_
        refine SL.y (op_assign rfl) rfl rfl ?_
        refine SL.nil ?_
        refine T.condF rfl ?_
        refine T.seq ?_
        refine T.region ?_
        first | refine SL.y (op_eqlT rfl rfl (by omega)) rfl rfl ?_ | refine SL.y (op_eqlF rfl rfl (by omega)) rfl rfl ?_ | refine SL.y (op_eql rfl rfl) rfl rfl ?_
        refine SL.y (op_assign rfl) rfl rfl ?_
        refine SL.nil ?_
        refine T.condF rfl ?_
        refine T.skip ?_
        refine T.blk ?_
        refine T.seq ?_
        refine T.region ?_
        refine SL.x (op_buildSlice Tryd.underlying24 bs9 (qs := [(0, _), (1, _), (2, _), (3, _), (4, _), (5, _), (6, _), (7, _), (8, _)]) rfl rfl rfl rfl rfl) rfl rfl ?_
        rintro _ _ _ ⟨B46, rfl, rfl, rfl⟩
        refine SL.y (op_fieldAddr fa27_0 rfl) rfl rfl ?_
        first | refine SL.y (op_load ty3 rfl (by repeat (first | exact AtO.here | apply AtO.there)) rfl) rfl rfl ?_ | refine SL.y (op_loadX ty3 rfl (by assumption) rfl) rfl rfl ?_
        first | refine SL.y (op_subN (q := 8) rfl rfl (by omega) (by omega)) rfl rfl ?_ | refine SL.y (op_sub rfl rfl (by omega) (by omega)) rfl rfl ?_ | refine SL.y (op_subW rfl rfl) rfl rfl ?_
        first | refine SL.y (op_indexN Tryd.underlying24 ty9 rfl rfl (by omega)) rfl rfl ?_ | refine SL.y (op_index Tryd.underlying24 ty9 rfl rfl (by omega) (by omega)) rfl rfl ?_
        -- to 51: op
        refine SL.y (op_load ty9 rfl (by repeat (first | exact AtO.here | apply AtO.there)) (cread1k' hsn (by omega))) rfl rfl ?_
        refine SL.y (op_assign rfl) rfl rfl ?_
        refine SL.nil ?_
        refine T.seq ?_
        refine T.draw (by kernel_rfl) 9 [.t 0, .t 1, .t 3, .t 4, .r 2, .r 5, .t 6, .t 7, .t 8] (by kernel_rfl) ?_
        refine SD.take rfl panicBody (op_fieldAddr fa27_0 rfl) rfl rfl ?_
        first | refine SD.take rfl panicBody (op_load ty3 rfl (by repeat (first | exact AtO.here | apply AtO.there)) rfl) rfl rfl ?_ | refine SD.take rfl panicBody (op_loadX ty3 rfl (by assumption) rfl) rfl rfl ?_
        refine SD.take rfl panicBody (op_fieldAddr fa27_0 rfl) rfl rfl ?_
        first | refine SD.take rfl panicBody (op_load ty3 rfl (by repeat (first | exact AtO.here | apply AtO.there)) rfl) rfl rfl ?_ | refine SD.take rfl panicBody (op_loadX ty3 rfl (by assumption) rfl) rfl rfl ?_
        -- op
        refine SD.run rfl (op_callF en88 (vs := [_]) rfl (binds_spec (op := op))) rfl rfl ?_
        rintro _ _ X1 ⟨rfl, hX1, rfl⟩
        -- op
        refine SD.run rfl (op_callF en88 (vs := [_]) rfl (binds_spec (op := op))) rfl rfl ?_
        rintro _ _ X2 ⟨rfl, hX2, rfl⟩
        first | refine SD.take rfl panicBody (op_addN (q := 1) rfl rfl (by omega)) rfl rfl ?_ | refine SD.take rfl panicBody (op_add rfl rfl (by omega) (by omega)) rfl rfl ?_ | refine SD.take rfl panicBody (op_addW rfl rfl) rfl rfl ?_
        refine SD.take rfl panicBody (op_assign rfl) rfl rfl ?_
        refine SD.take rfl panicBody (op_assign rfl) rfl rfl ?_
        refine SD.nil ?_
        show SL _ _ _ _ _ _ _ [] _ _ _
        refine SL.nil ?_
        refine T.seq ?_
        refine T.seq ?_
        refine T.region ?_
        refine SL.y (op_fieldAddr fa27_0 rfl) rfl rfl ?_
        first | refine SL.y (op_load ty3 rfl (by repeat (first | exact AtO.here | apply AtO.there)) rfl) rfl rfl ?_ | refine SL.y (op_loadX ty3 rfl (by assumption) rfl) rfl rfl ?_
        first | refine SL.y (op_eqlT rfl rfl (by omega)) rfl rfl ?_ | refine SL.y (op_eqlF rfl rfl (by omega)) rfl rfl ?_ | refine SL.y (op_eql rfl rfl) rfl rfl ?_
        refine SL.nil ?_
        refine T.condF rfl ?_
        refine T.skip ?_
        refine T.seq ?_
        refine T.seq ?_
        refine T.region ?_
        refine SL.y (op_fieldAddr fa27_0 rfl) rfl rfl ?_
        first | refine SL.y (op_load ty3 rfl (by repeat (first | exact AtO.here | apply AtO.there)) rfl) rfl rfl ?_ | refine SL.y (op_loadX ty3 rfl (by assumption) rfl) rfl rfl ?_
        first | refine SL.y (op_geqT rfl rfl (by omega)) rfl rfl ?_ | refine SL.y (op_geqF rfl rfl (by omega)) rfl rfl ?_ | refine SL.y (op_geq rfl rfl) rfl rfl ?_
        refine SL.y (op_move rfl) rfl rfl ?_
        first | refine SL.skip rfl rfl ?_ | refine SL.y (op_fieldAddr fa27_0 rfl) rfl rfl ?_
        first | refine SL.skip rfl rfl ?_ | refine SL.y (op_load ty3 rfl (by repeat (first | exact AtO.here | apply AtO.there)) rfl) rfl rfl ?_ | refine SL.y (op_loadX ty3 rfl (by assumption) rfl) rfl rfl ?_
        first | refine SL.skip rfl rfl ?_ | refine SL.y (op_leqT rfl rfl (by omega)) rfl rfl ?_ | refine SL.y (op_leqF rfl rfl (by omega)) rfl rfl ?_ | refine SL.y (op_leq rfl rfl) rfl rfl ?_
        first | refine SL.y (op_pickT rfl rfl) rfl rfl ?_ | refine SL.y (op_pickF rfl rfl) rfl rfl ?_ | refine SL.y (op_pickB rfl rfl rfl) rfl rfl ?_
        refine SL.nil ?_
        refine T.condF rfl ?_
        refine T.skip ?_
        refine T.seq ?_
        refine T.draw (by kernel_rfl) 18 [.t 0, .t 1, .t 2, .t 3, .t 4, .t 7, .t 10, .t 11, .t 12, .t 13, .t 14, .r 5, .t 6, .t 8, .t 9, .r 15, .t 16, .t 17] (by kernel_rfl) ?_
        refine SD.take rfl panicBody (op_fieldAddr fa27_3 rfl) rfl rfl ?_
        first | refine SD.take rfl panicBody (op_load ty25 rfl (by repeat (first | exact AtO.here | apply AtO.there)) rfl) rfl rfl ?_ | refine SD.take rfl panicBody (op_loadX ty25 rfl (by assumption) rfl) rfl rfl ?_
        first | refine SD.take rfl panicBody (op_indexN Tryd.underlying25 ty27 rfl rfl (by omega)) rfl rfl ?_ | refine SD.take rfl panicBody (op_index Tryd.underlying25 ty27 rfl rfl (by omega) (by omega)) rfl rfl ?_
        -- to 73: op
        refine SD.take rfl panicBody (op_loadX ty27 rfl (hbA.mono (hX1.trans' hX2)) (row_read rc4_len (rs := [_, _]) (k := 0) rfl (by omega))) rfl rfl ?_
        refine SD.take rfl panicBody (op_move rfl) rfl rfl ?_
        refine SD.take rfl panicBody (op_move rfl) rfl rfl ?_
        refine SD.take rfl panicBody (op_fieldAddr fa27_3 rfl) rfl rfl ?_
        first | refine SD.take rfl panicBody (op_load ty25 rfl (by repeat (first | exact AtO.here | apply AtO.there)) rfl) rfl rfl ?_ | refine SD.take rfl panicBody (op_loadX ty25 rfl (by assumption) rfl) rfl rfl ?_
        first | refine SD.take rfl panicBody (op_indexN Tryd.underlying25 ty27 rfl rfl (by omega)) rfl rfl ?_ | refine SD.take rfl panicBody (op_index Tryd.underlying25 ty27 rfl rfl (by omega) (by omega)) rfl rfl ?_
        -- to 83: op
        refine SD.take rfl panicBody (op_loadX ty27 rfl (hbA.mono (hX1.trans' hX2)) (row_read rc4_len (rs := [_, _]) (k := 1) rfl (by omega))) rfl rfl ?_
        refine SD.take rfl panicBody (op_move rfl) rfl rfl ?_
        -- op
        refine SD.run rfl (op_callF en87 (vs := [_, _]) rfl (hopd hwa.1 hna (hra.mono (hX1.trans' hX2)))) rfl rfl ?_
        rintro _ _ X3 ⟨rfl, hX3, rfl⟩
        refine SD.take rfl panicBody (op_addStr rfl rfl (by first | omega | (simp only [ByteArray.size_append]; omega))) rfl rfl ?_
        refine SD.take rfl panicBody (op_addStr rfl rfl (by first | omega | (simp only [ByteArray.size_append]; omega))) rfl rfl ?_
        refine SD.take rfl panicBody (op_addStr rfl rfl (by first | omega | (simp only [ByteArray.size_append]; omega))) rfl rfl ?_
        -- op
        refine SD.run rfl (op_callF en87 (vs := [_, _]) rfl (hopd hwa.2 hnb ((hrb.mono (hX1.trans' hX2)).mono hX3))) rfl rfl ?_
        rintro _ _ X5 ⟨rfl, hX5, rfl⟩
        refine SD.take rfl panicBody (op_addStr rfl rfl (by first | omega | (simp only [ByteArray.size_append]; omega))) rfl rfl ?_
        refine SD.take rfl panicBody (op_assign rfl) rfl rfl ?_
        refine SD.nil ?_
        show SL _ _ _ _ _ _ _ [] _ _ _
        refine SL.nil ?_
        -- ret
        refine T.ret1 rfl (ResIs.tmp rfl) ?_
        rfl
      · refine Spec.enter Tryd.func54 rfl Tryd.ntmps54 rfl ?_
        intro w0 hw0
        refine T.seq ?_
        refine T.region ?_
        refine SL.x (op_box rfl) rfl rfl ?_
        rintro _ _ _ ⟨B1, rfl, rfl, rfl⟩
        refine SL.y (op_assign rfl) rfl rfl ?_
        refine SL.nil ?_
        refine T.seq ?_
        refine T.seq ?_
        refine T.region ?_
        refine SL.y (op_fieldAddr fa27_0 rfl) rfl rfl ?_
        first | refine SL.y (op_load ty3 rfl (by repeat (first | exact AtO.here | apply AtO.there)) rfl) rfl rfl ?_ | refine SL.y (op_loadX ty3 rfl (by assumption) rfl) rfl rfl ?_
        refine SL.nil ?_
        refine T.block ?_
        refine T.seq ?_
        refine T.region ?_
        first | refine SL.y (op_eqlT rfl rfl (by omega)) rfl rfl ?_ | refine SL.y (op_eqlF rfl rfl (by omega)) rfl rfl ?_ | refine SL.y (op_eql rfl rfl) rfl rfl ?_
        refine SL.y (op_assign rfl) rfl rfl ?_
        refine SL.nil ?_
        refine T.condF rfl ?_
        refine T.seq ?_
        refine T.region ?_
        first | refine SL.y (op_eqlT rfl rfl (by omega)) rfl rfl ?_ | refine SL.y (op_eqlF rfl rfl (by omega)) rfl rfl ?_ | refine SL.y (op_eql rfl rfl) rfl rfl ?_
        refine SL.y (op_assign rfl) rfl rfl ?_
        refine SL.nil ?_
        refine T.condF rfl ?_
        refine T.seq ?_
        refine T.region ?_
        first | refine SL.y (op_eqlT rfl rfl (by omega)) rfl rfl ?_ | refine SL.y (op_eqlF rfl rfl (by omega)) rfl rfl ?_ | refine SL.y (op_eql rfl rfl) rfl rfl ?_
        refine SL.y (op_assign rfl) rfl rfl ?_
        refine SL.nil ?_
        refine T.condF rfl ?_
        refine T.seq ?_
        refine T.region ?_
        first | refine SL.y (op_eqlT rfl rfl (by omega)) rfl rfl ?_ | refine SL.y (op_eqlF rfl rfl (by omega)) rfl rfl ?_ | refine SL.y (op_eql rfl rfl) rfl rfl ?_
        refine SL.y (op_assign rfl) rfl rfl ?_
        refine SL.nil ?_
        refine T.condF rfl ?_
        refine T.seq ?_
        refine T.region ?_
        first | refine SL.y (op_eqlT rfl rfl (by omega)) rfl rfl ?_ | refine SL.y (op_eqlF rfl rfl (by omega)) rfl rfl ?_ | refine SL.y (op_eql rfl rfl) rfl rfl ?_
        refine SL.y (op_assign rfl) rfl rfl ?_
        refine SL.nil ?_
        refine T.condF rfl ?_
        refine T.seq ?_
        refine T.region ?_
        first | refine SL.y (op_eqlT rfl rfl (by omega)) rfl rfl ?_ | refine SL.y (op_eqlF rfl rfl (by omega)) rfl rfl ?_ | refine SL.y (op_eql rfl rfl) rfl rfl ?_
        refine SL.y (op_assign rfl) rfl rfl ?_
        refine SL.nil ?_
        refine T.condF rfl ?_
        refine T.seq ?_
        refine T.region ?_
        first | refine SL.y (op_eqlT rfl rfl (by omega)) rfl rfl ?_ | refine SL.y (op_eqlF rfl rfl (by omega)) rfl rfl ?_ | refine SL.y (op_eql rfl rfl) rfl rfl ?_
        refine SL.y (op_assign rfl) rfl rfl ?_
        refine SL.nil ?_
        refine T.condF rfl ?_
        refine T.skip ?_
        refine T.blk ?_
        refine T.seq ?_
        refine T.region ?_
        refine SL.x (op_buildSlice Tryd.underlying24 bs9 (qs := [(0, _), (1, _), (2, _), (3, _), (4, _), (5, _), (6, _), (7, _), (8, _)]) rfl rfl rfl rfl rfl) rfl rfl ?_
        rintro _ _ _ ⟨B46, rfl, rfl, rfl⟩
        refine SL.y (op_fieldAddr fa27_0 rfl) rfl rfl ?_
        first | refine SL.y (op_load ty3 rfl (by repeat (first | exact AtO.here | apply AtO.there)) rfl) rfl rfl ?_ | refine SL.y (op_loadX ty3 rfl (by assumption) rfl) rfl rfl ?_
        first | refine SL.y (op_subN (q := 8) rfl rfl (by omega) (by omega)) rfl rfl ?_ | refine SL.y (op_sub rfl rfl (by omega) (by omega)) rfl rfl ?_ | refine SL.y (op_subW rfl rfl) rfl rfl ?_
        first | refine SL.y (op_indexN Tryd.underlying24 ty9 rfl rfl (by omega)) rfl rfl ?_ | refine SL.y (op_index Tryd.underlying24 ty9 rfl rfl (by omega) (by omega)) rfl rfl ?_
        -- to 51: op
        refine SL.y (op_load ty9 rfl (by repeat (first | exact AtO.here | apply AtO.there)) (cread1k' hsn (by omega))) rfl rfl ?_
        refine SL.y (op_assign rfl) rfl rfl ?_
        refine SL.nil ?_
        refine T.seq ?_
        refine T.draw (by kernel_rfl) 9 [.t 0, .t 1, .t 3, .t 4, .r 2, .r 5, .t 6, .t 7, .t 8] (by kernel_rfl) ?_
        refine SD.take rfl panicBody (op_fieldAddr fa27_0 rfl) rfl rfl ?_
        first | refine SD.take rfl panicBody (op_load ty3 rfl (by repeat (first | exact AtO.here | apply AtO.there)) rfl) rfl rfl ?_ | refine SD.take rfl panicBody (op_loadX ty3 rfl (by assumption) rfl) rfl rfl ?_
        refine SD.take rfl panicBody (op_fieldAddr fa27_0 rfl) rfl rfl ?_
        first | refine SD.take rfl panicBody (op_load ty3 rfl (by repeat (first | exact AtO.here | apply AtO.there)) rfl) rfl rfl ?_ | refine SD.take rfl panicBody (op_loadX ty3 rfl (by assumption) rfl) rfl rfl ?_
        -- op
        refine SD.run rfl (op_callF en88 (vs := [_]) rfl (binds_spec (op := op))) rfl rfl ?_
        rintro _ _ X1 ⟨rfl, hX1, rfl⟩
        -- op
        refine SD.run rfl (op_callF en88 (vs := [_]) rfl (binds_spec (op := op))) rfl rfl ?_
        rintro _ _ X2 ⟨rfl, hX2, rfl⟩
        first | refine SD.take rfl panicBody (op_addN (q := 1) rfl rfl (by omega)) rfl rfl ?_ | refine SD.take rfl panicBody (op_add rfl rfl (by omega) (by omega)) rfl rfl ?_ | refine SD.take rfl panicBody (op_addW rfl rfl) rfl rfl ?_
        refine SD.take rfl panicBody (op_assign rfl) rfl rfl ?_
        refine SD.take rfl panicBody (op_assign rfl) rfl rfl ?_
        refine SD.nil ?_
        show SL _ _ _ _ _ _ _ [] _ _ _
        refine SL.nil ?_
        refine T.seq ?_
        refine T.seq ?_
        refine T.region ?_
        refine SL.y (op_fieldAddr fa27_0 rfl) rfl rfl ?_
        first | refine SL.y (op_load ty3 rfl (by repeat (first | exact AtO.here | apply AtO.there)) rfl) rfl rfl ?_ | refine SL.y (op_loadX ty3 rfl (by assumption) rfl) rfl rfl ?_
        first | refine SL.y (op_eqlT rfl rfl (by omega)) rfl rfl ?_ | refine SL.y (op_eqlF rfl rfl (by omega)) rfl rfl ?_ | refine SL.y (op_eql rfl rfl) rfl rfl ?_
        refine SL.nil ?_
        refine T.condF rfl ?_
        refine T.skip ?_
        refine T.seq ?_
        refine T.seq ?_
        refine T.region ?_
        refine SL.y (op_fieldAddr fa27_0 rfl) rfl rfl ?_
        first | refine SL.y (op_load ty3 rfl (by repeat (first | exact AtO.here | apply AtO.there)) rfl) rfl rfl ?_ | refine SL.y (op_loadX ty3 rfl (by assumption) rfl) rfl rfl ?_
        first | refine SL.y (op_geqT rfl rfl (by omega)) rfl rfl ?_ | refine SL.y (op_geqF rfl rfl (by omega)) rfl rfl ?_ | refine SL.y (op_geq rfl rfl) rfl rfl ?_
        refine SL.y (op_move rfl) rfl rfl ?_
        first | refine SL.skip rfl rfl ?_ | refine SL.y (op_fieldAddr fa27_0 rfl) rfl rfl ?_
        first | refine SL.skip rfl rfl ?_ | refine SL.y (op_load ty3 rfl (by repeat (first | exact AtO.here | apply AtO.there)) rfl) rfl rfl ?_ | refine SL.y (op_loadX ty3 rfl (by assumption) rfl) rfl rfl ?_
        first | refine SL.skip rfl rfl ?_ | refine SL.y (op_leqT rfl rfl (by omega)) rfl rfl ?_ | refine SL.y (op_leqF rfl rfl (by omega)) rfl rfl ?_ | refine SL.y (op_leq rfl rfl) rfl rfl ?_
        first | refine SL.y (op_pickT rfl rfl) rfl rfl ?_ | refine SL.y (op_pickF rfl rfl) rfl rfl ?_ | refine SL.y (op_pickB rfl rfl rfl) rfl rfl ?_
        refine SL.nil ?_
        refine T.condF rfl ?_
        refine T.skip ?_
        refine T.seq ?_
        refine T.draw (by kernel_rfl) 18 [.t 0, .t 1, .t 2, .t 3, .t 4, .t 7, .t 10, .t 11, .t 12, .t 13, .t 14, .r 5, .t 6, .t 8, .t 9, .r 15, .t 16, .t 17] (by kernel_rfl) ?_
        refine SD.take rfl panicBody (op_fieldAddr fa27_3 rfl) rfl rfl ?_
        first | refine SD.take rfl panicBody (op_load ty25 rfl (by repeat (first | exact AtO.here | apply AtO.there)) rfl) rfl rfl ?_ | refine SD.take rfl panicBody (op_loadX ty25 rfl (by assumption) rfl) rfl rfl ?_
        first | refine SD.take rfl panicBody (op_indexN Tryd.underlying25 ty27 rfl rfl (by omega)) rfl rfl ?_ | refine SD.take rfl panicBody (op_index Tryd.underlying25 ty27 rfl rfl (by omega) (by omega)) rfl rfl ?_
        -- to 73: op
        refine SD.take rfl panicBody (op_loadX ty27 rfl (hbA.mono (hX1.trans' hX2)) (row_read rc4_len (rs := [_, _]) (k := 0) rfl (by omega))) rfl rfl ?_
        refine SD.take rfl panicBody (op_move rfl) rfl rfl ?_
        refine SD.take rfl panicBody (op_move rfl) rfl rfl ?_
        refine SD.take rfl panicBody (op_fieldAddr fa27_3 rfl) rfl rfl ?_
        first | refine SD.take rfl panicBody (op_load ty25 rfl (by repeat (first | exact AtO.here | apply AtO.there)) rfl) rfl rfl ?_ | refine SD.take rfl panicBody (op_loadX ty25 rfl (by assumption) rfl) rfl rfl ?_
        first | refine SD.take rfl panicBody (op_indexN Tryd.underlying25 ty27 rfl rfl (by omega)) rfl rfl ?_ | refine SD.take rfl panicBody (op_index Tryd.underlying25 ty27 rfl rfl (by omega) (by omega)) rfl rfl ?_
        -- to 83: op
        refine SD.take rfl panicBody (op_loadX ty27 rfl (hbA.mono (hX1.trans' hX2)) (row_read rc4_len (rs := [_, _]) (k := 1) rfl (by omega))) rfl rfl ?_
        refine SD.take rfl panicBody (op_move rfl) rfl rfl ?_
        -- op
        refine SD.run rfl (op_callF en87 (vs := [_, _]) rfl (hopd hwa.1 hna (hra.mono (hX1.trans' hX2)))) rfl rfl ?_
        rintro _ _ X3 ⟨rfl, hX3, rfl⟩
        refine SD.take rfl panicBody (op_addStr rfl rfl (by first | omega | (simp only [ByteArray.size_append]; omega))) rfl rfl ?_
        refine SD.take rfl panicBody (op_addStr rfl rfl (by first | omega | (simp only [ByteArray.size_append]; omega))) rfl rfl ?_
        refine SD.take rfl panicBody (op_addStr rfl rfl (by first | omega | (simp only [ByteArray.size_append]; omega))) rfl rfl ?_
        -- op
        refine SD.run rfl (op_callF en87 (vs := [_, _]) rfl (hopd hwa.2 hnb ((hrb.mono (hX1.trans' hX2)).mono hX3))) rfl rfl ?_
        rintro _ _ X5 ⟨rfl, hX5, rfl⟩
        refine SD.take rfl panicBody (op_addStr rfl rfl (by first | omega | (simp only [ByteArray.size_append]; omega))) rfl rfl ?_
        refine SD.take rfl panicBody (op_assign rfl) rfl rfl ?_
        refine SD.nil ?_
        show SL _ _ _ _ _ _ _ [] _ _ _
        refine SL.nil ?_
        -- ret
        refine T.ret1 rfl (ResIs.tmp rfl) ?_
        rfl
end Go.Proofs.YtaooojjhlngcmaaDoor
