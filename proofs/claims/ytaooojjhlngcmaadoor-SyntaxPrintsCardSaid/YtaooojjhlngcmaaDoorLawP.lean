/- SyntaxPrints. -/
import Derived.Test.YtaooojjhlngcmaaDoorConv
import Derived.Test.YtaooojjhlngcmaaDoorAwk
import Derived.Test.YtaooojjhlngcmaaDoorRprint
namespace Go.Proofs.YtaooojjhlngcmaaDoor
section
set_option maxRecDepth 100000
theorem en11 : Enters Tryd.prog 11 := enters_mk Tryd.func11 (by kernel_rfl) rfl
theorem en12 : Enters Tryd.prog 12 := enters_mk Tryd.func12 (by kernel_rfl) rfl
theorem en27 : Enters Tryd.prog 27 := enters_mk Tryd.func27 (by kernel_rfl) rfl
end
open Go.RowKit
theorem sPrints_spec {X : PMap} (hP : Pow10 X) {v : Value} {l : List Nd} (h : RowR ndC X v l) (hok : ∀ x ∈ l, ndOk x) : Spec Tryd.prog 6 [v] X fun u _ => u = .bool true := by
  refine Spec.enter Tryd.func6 rfl Tryd.ntmps6 rfl ?_
  intro w0 hw0
  refine T.seq ?_
  refine T.region ?_
  refine SL.y (op_assign rfl) rfl rfl ?_
  refine SL.nil ?_
  refine T.seq ?_
  refine T.seq ?_
  refine T.region ?_
  -- op
  refine SL.x (op_callF en11 (vs := []) rfl (awake16_spec)) rfl rfl ?_
  rintro _ _ X0 ⟨rfl, hX0, rfl⟩
  refine SL.y (op_not rfl) rfl rfl ?_
  refine SL.nil ?_
  refine T.condF rfl ?_
  refine T.skip ?_
  refine T.seq ?_
  refine T.region ?_
  refine SL.y (op_move rfl) rfl rfl ?_
  -- op
  refine SL.x (op_callF en12 (vs := [_]) rfl (built_spec (h.mono hX0) hok)) rfl rfl ?_
  rintro _ _ X1 ⟨rfl, hX1, r, rfl, hr⟩
  obtain ⟨o, n, A, B, l1, c1, l2, c2, rfl⟩ := hr.form
  refine SL.x (op_alloc z27) rfl rfl ?_
  rintro _ _ _ ⟨B3, rfl, rfl, rfl⟩
  refine SL.x (op_store ty27 rfl rfl (by repeat (first | exact AtO.here | apply AtO.there)) rfl rfl rfl) rfl rfl ?_
  rintro _ _ _ ⟨rfl, rfl⟩
  refine SL.nil ?_
  refine T.seq ?_
  refine T.draw (by kernel_rfl) 7 [.t 0, .t 3, .r 1, .r 2, .r 4, .t 5, .t 6] (by kernel_rfl) ?_
  first | refine SD.take rfl panicBody (op_load ty27 rfl (by repeat (first | exact AtO.here | apply AtO.there)) rfl) rfl rfl ?_ | refine SD.take rfl panicBody (op_loadX ty27 rfl (by assumption) rfl) rfl rfl ?_
  first | refine SD.take rfl panicBody (op_load ty27 rfl (by repeat (first | exact AtO.here | apply AtO.there)) rfl) rfl rfl ?_ | refine SD.take rfl panicBody (op_loadX ty27 rfl (by assumption) rfl) rfl rfl ?_
  -- op
  have hc := expr_spec 300000 (Nat.le_of_lt (built_wt l)) (by omega) (built_ops hok) hr
  try simp only at hc
  refine SD.run rfl (op_callF en14 (vs := [_]) rfl (hc)) rfl rfl ?_
  rintro _ _ X2 ⟨rfl, hX2, r2, rfl, hr2⟩
  obtain ⟨o2, n2, A2, B2, l3, c3, l4, c4, rfl⟩ := hr2.form
  have hw : wtE (builtE l) < 300000 := built_wt l
  generalize builtE l = e at *
  -- op
  have hc1 := printA_spec (((hP.mono hX0).mono hX1).mono hX2) (by omega) hr2
  try simp only at hc1
  refine SD.run rfl (op_callF en26 (vs := [_]) rfl (hc1)) rfl rfl ?_
  rintro _ _ X3 ⟨rfl, hX3, rfl⟩
  -- op
  have hc2 := rprint_spec (by omega) ((hr.mono hX2).mono hX3)
  try simp only at hc2
  refine SD.run rfl (op_callF en27 (vs := [_]) rfl (hc2)) rfl rfl ?_
  rintro _ _ X4 ⟨rfl, hX4, rfl⟩
  refine SD.take rfl panicBody (op_eqlStrD rfl rfl) rfl rfl ?_
  refine SD.take rfl panicBody (op_assign rfl) rfl rfl ?_
  refine SD.nil ?_
  show SL _ _ _ _ _ _ _ [] _ _ _
  refine SL.nil ?_
  -- ret
  refine T.ret1 rfl (ResIs.tmp rfl) ?_
  rw [decide_eq_true rfl]
end Go.Proofs.YtaooojjhlngcmaaDoor
