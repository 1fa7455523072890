/- MembershipBytes answers true. -/
import Derived.Test.YtkmnlogacfkjmaaDoorAw
import Derived.Test.YtkmnlogacfkjmaaDoorRdLaw
namespace Go.Proofs.YtkmnlogacfkjmaaDoor
section
set_option maxRecDepth 100000
theorem en12 : Enters Tryd.prog 12 := enters_mk Tryd.func12 (by kernel_rfl) rfl
theorem en13 : Enters Tryd.prog 13 := enters_mk Tryd.func13 (by kernel_rfl) rfl
theorem en17 : Enters Tryd.prog 17 := enters_mk Tryd.func17 (by kernel_rfl) rfl
theorem en29 : Enters Tryd.prog 29 := enters_mk Tryd.func29 (by kernel_rfl) rfl
theorem en42 : Enters Tryd.prog 42 := enters_mk Tryd.func42 (by kernel_rfl) rfl
theorem en44 : Enters Tryd.prog 44 := enters_mk Tryd.func44 (by kernel_rfl) rfl
end
open Go.RowKit
theorem bytesM_spec {X : PMap} (hT : Tab X) {s : Value} {l : List Rw} (h : RawR X s l) (hl : rawOk l) : Spec Tryd.prog 11 [s] X fun u _ => u = .bool true := by
  obtain ⟨A, cp, rfl⟩ := h.form
  refine Spec.enter Tryd.func11 rfl Tryd.ntmps11 rfl ?_
  intro w0 hw0
  refine T.seq ?_
  refine T.region ?_
  refine SL.y (op_assign rfl) rfl rfl ?_
  refine SL.nil ?_
  refine T.seq ?_
  refine T.seq ?_
  refine T.region ?_
  -- op
  refine SL.x (op_callF en12 (vs := []) rfl (awake12_spec hT)) rfl rfl ?_
  rintro _ _ X1 ⟨rfl, hX1, rfl⟩
  refine SL.y (op_not rfl) rfl rfl ?_
  refine SL.nil ?_
  refine T.condF rfl ?_
  refine T.skip ?_
  refine T.seq ?_
  refine T.region ?_
  refine SL.y (op_move rfl) rfl rfl ?_
  -- op
  refine SL.x (op_callF en13 (vs := [_]) rfl (make12_spec (h.mono hX1) hl)) rfl rfl ?_
  rintro _ _ X2 ⟨rfl, hX2, p, t, rfl, hp, ht⟩
  have hw := mkE_wf l
  have hln := mkE_len l
  generalize mkE l = L at *
  have hlb := encL_len hw (by omega)
  obtain ⟨bp, sv, rfl, hb, hs⟩ := hp
  obtain ⟨At, ct, rfl⟩ := SliceR.form ht
  have hP : BkR X2 (.pointer (some ⟨bp, 0, none⟩)) L := ⟨bp, sv, rfl, hb, hs⟩
  refine SL.y (op_move rfl) rfl rfl ?_
  refine SL.y (op_extract rfl rfl) rfl rfl ?_
  refine SL.y (op_extract rfl rfl) rfl rfl ?_
  refine SL.y (op_assign rfl) rfl rfl ?_
  refine SL.y (op_assign rfl) rfl rfl ?_
  refine SL.nil ?_
  refine T.seq ?_
  refine T.seq ?_
  refine T.region ?_
  refine SL.y (op_move rfl) rfl rfl ?_
  refine SL.y (op_eqlNil Tryd.underlying24 rfl rfl) rfl rfl ?_
  refine SL.y (op_move rfl) rfl rfl ?_
  first | refine SL.skip rfl rfl ?_ | refine SL.y (op_move rfl) rfl rfl ?_
  -- op
  refine SL.x (op_callF en41 (vs := [_]) rfl (bytes_spec hP hw (by omega))) rfl rfl ?_
  rintro s1 _ X3 ⟨rfl, hX3, hs1⟩
  first | refine SL.skip rfl rfl ?_ | refine SL.y (op_move rfl) rfl rfl ?_
  -- op
  refine SL.x (op_callF en42 (vs := [_]) rfl ((rbytes_spec (ht.mono hX3) hw (by omega)).pubG)) rfl rfl ?_
  rintro s2 _ X4 ⟨rfl, hX4, hs2⟩
  refine SL.x (op_callF en45 (vs := [_, _]) rfl (eqBytes_spec (hs1.mono hX4) (BytesR.ofS hs2) (by omega))) rfl rfl ?_
  rintro _ _ X5 ⟨rfl, hX5, rfl⟩
  rw [decide_eq_true rfl]
  first | refine SL.skip rfl rfl ?_ | refine SL.y (op_not rfl) rfl rfl ?_
  first | refine SL.y (op_pickT rfl rfl) rfl rfl ?_ | refine SL.y (op_pickF rfl rfl) rfl rfl ?_ | refine SL.y (op_pickB rfl rfl rfl) rfl rfl ?_
  refine SL.nil ?_
  refine T.condF rfl ?_
  refine T.skip ?_
  refine T.seq ?_
  refine T.region ?_
  refine SL.y (op_move rfl) rfl rfl ?_
  -- op
  refine SL.x (op_callF en42 (vs := [_]) rfl ((rbytes_spec (((ht.mono hX3).mono hX4).mono hX5) hw (by omega)).pubG)) rfl rfl ?_
  rintro s3 _ X6 ⟨rfl, hX6, hs3⟩
  refine SL.x (op_callF en44 (vs := [_]) rfl (breadG_spec (BytesR.ofS hs3) (by omega) encL_lt)) rfl rfl ?_
  rintro _ _ X7 ⟨rfl, hX7, hr⟩
  rw [rdBook_enc hw (by omega)] at hr
  simp only at hr
  rcases hr with ⟨q, _, rfl, hq⟩ | ⟨hne, _⟩
  · have hP7 := ((((hP.mono hX3).mono hX4).mono hX5).mono hX6).mono hX7
    refine SL.y (op_move rfl) rfl rfl ?_
    refine SL.y (op_extract rfl rfl) rfl rfl ?_
    refine SL.y (op_extract rfl rfl) rfl rfl ?_
    refine SL.y (op_assign rfl) rfl rfl ?_
    refine SL.y (op_assign rfl) rfl rfl ?_
    refine SL.nil ?_
    refine T.seq ?_
    refine T.region ?_
    refine SL.y (op_move rfl) rfl rfl ?_
    first | refine SL.y (op_eqlT rfl rfl (by omega)) rfl rfl ?_ | refine SL.y (op_eqlF rfl rfl (by omega)) rfl rfl ?_ | refine SL.y (op_eql rfl rfl) rfl rfl ?_
    refine SL.y (op_move rfl) rfl rfl ?_
    first | refine SL.skip rfl rfl ?_ | refine SL.y (op_move rfl) rfl rfl ?_
    first | refine SL.skip rfl rfl ?_ | refine SL.y (op_move rfl) rfl rfl ?_
    -- op
    refine SL.x (op_callF en29 (vs := [_, _]) rfl (is_spec hq (((((ht.mono hX3).mono hX4).mono hX5).mono hX6).mono hX7) (by omega))) rfl rfl ?_
    rintro _ _ X8 ⟨rfl, hX8, rfl⟩
    rw [decide_eq_true rfl]
    first | refine SL.y (op_pickT rfl rfl) rfl rfl ?_ | refine SL.y (op_pickF rfl rfl) rfl rfl ?_ | refine SL.y (op_pickB rfl rfl rfl) rfl rfl ?_
    refine SL.y (op_move rfl) rfl rfl ?_
    first | refine SL.skip rfl rfl ?_ | refine SL.y (op_move rfl) rfl rfl ?_
    first | refine SL.skip rfl rfl ?_ | refine SL.y (op_move rfl) rfl rfl ?_
    -- op
    refine SL.x (op_callF en17 (vs := [_, _]) rfl (bequal_spec (hq.mono hX8) (hP7.mono hX8) (by omega))) rfl rfl ?_
    rintro _ _ X9 ⟨rfl, hX9, rfl⟩
    rw [decide_eq_true rfl]
    first | refine SL.y (op_pickT rfl rfl) rfl rfl ?_ | refine SL.y (op_pickF rfl rfl) rfl rfl ?_ | refine SL.y (op_pickB rfl rfl rfl) rfl rfl ?_
    refine SL.y (op_assign rfl) rfl rfl ?_
    refine SL.nil ?_
    -- ret
    refine T.ret1 rfl (ResIs.tmp rfl) ?_
    rfl
  · exact absurd rfl hne
end Go.Proofs.YtkmnlogacfkjmaaDoor
