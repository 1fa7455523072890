/- LatticeLimits answers true. -/
import Derived.Test.YtoheffglppbcbaaDoorAwake
namespace Go.Proofs.YtoheffglppbcbaaDoor
section
set_option maxRecDepth 100000
theorem en13 : Enters Tryd.prog 13 := enters_mk Tryd.func13 (by kernel_rfl) rfl
theorem en14 : Enters Tryd.prog 14 := enters_mk Tryd.func14 (by kernel_rfl) rfl
end
open Go.RowKit
theorem lnewNil_spec {X : PMap} : Spec Tryd.prog 15 [.pointer none, .int .i64 3] X fun u _ => u = .tuple #[.pointer none, .int .i64 1] := by
  refine Spec.enter Tryd.func15 rfl Tryd.ntmps15 rfl ?_
  intro w0 hw0
  refine T.seq ?_
  refine T.region ?_
  refine SL.y (op_assign rfl) rfl rfl ?_
  refine SL.y (op_assign (v := .int .i64 ((0 : Nat) : Int)) rfl) rfl rfl ?_
  refine SL.nil ?_
  refine T.seq ?_
  refine T.seq ?_
  refine T.region ?_
  refine SL.y (op_move rfl) rfl rfl ?_
  refine SL.y (op_eqlNil Tryd.underlying27 rfl rfl) rfl rfl ?_
  refine SL.y (op_move rfl) rfl rfl ?_
  first | refine SL.skip rfl rfl ?_ | refine SL.y (op_move rfl) rfl rfl ?_
  first | refine SL.skip rfl rfl ?_ | refine SL.y (op_lssT rfl rfl (by omega)) rfl rfl ?_ | refine SL.y (op_lssF rfl rfl (by omega)) rfl rfl ?_ | refine SL.y (op_lss rfl rfl) rfl rfl ?_
  first | refine SL.y (op_pickT rfl rfl) rfl rfl ?_ | refine SL.y (op_pickF rfl rfl) rfl rfl ?_ | refine SL.y (op_pickB rfl rfl rfl) rfl rfl ?_
  refine SL.nil ?_
  refine T.condT rfl ?_
  refine T.seq ?_
  refine T.region ?_
  refine SL.y (op_assign rfl) rfl rfl ?_
  refine SL.y (op_assign (v := .int .i64 ((1 : Nat) : Int)) rfl) rfl rfl ?_
  refine SL.nil ?_
  -- ret
  refine T.ret2 rfl (ResIs.tmp rfl) (ResIs.tmp rfl) ?_
  rfl
theorem lnewLow_spec {X : PMap} {v : Value} {c : Nat} {ms : List Nat} (h : MatR X v c ms) (k : Int) (hk : k < 1) : Spec Tryd.prog 15 [v, .int .i64 k] X fun u _ => u = .tuple #[.pointer none, .int .i64 1] := by
  obtain ⟨bm, rfl⟩ := h.ptr
  refine Spec.enter Tryd.func15 rfl Tryd.ntmps15 rfl ?_
  intro w0 hw0
  refine T.seq ?_
  refine T.region ?_
  refine SL.y (op_assign rfl) rfl rfl ?_
  refine SL.y (op_assign (v := .int .i64 ((0 : Nat) : Int)) rfl) rfl rfl ?_
  refine SL.nil ?_
  refine T.seq ?_
  refine T.seq ?_
  refine T.region ?_
  refine SL.y (op_move rfl) rfl rfl ?_
  refine SL.y (op_eqlNil Tryd.underlying27 rfl rfl) rfl rfl ?_
  refine SL.y (op_move rfl) rfl rfl ?_
  first | refine SL.skip rfl rfl ?_ | refine SL.y (op_move rfl) rfl rfl ?_
  first | refine SL.skip rfl rfl ?_ | refine SL.y (op_lssT rfl rfl (by omega)) rfl rfl ?_ | refine SL.y (op_lssF rfl rfl (by omega)) rfl rfl ?_ | refine SL.y (op_lss rfl rfl) rfl rfl ?_
  first | refine SL.y (op_pickT rfl rfl) rfl rfl ?_ | refine SL.y (op_pickF rfl rfl) rfl rfl ?_ | refine SL.y (op_pickB rfl rfl rfl) rfl rfl ?_
  refine SL.nil ?_
  refine T.condT rfl ?_
  refine T.seq ?_
  refine T.region ?_
  refine SL.y (op_assign rfl) rfl rfl ?_
  refine SL.y (op_assign (v := .int .i64 ((1 : Nat) : Int)) rfl) rfl rfl ?_
  refine SL.nil ?_
  -- ret
  refine T.ret2 rfl (ResIs.tmp rfl) (ResIs.tmp rfl) ?_
  rfl
theorem limits_spec {X : PMap} (hT : Tab X) {s : Value} {bs : List Nat} (R C : Nat) (hR : R < 256) (hC : C < 256) (h : BytesR X s bs) (k : Int) (h1 : -128 ≤ k) (h2 : k ≤ 127) :
    Spec Tryd.prog 3 [.agg #[.int .u8 (R : Int), .int .u8 (C : Int), s], .int .i8 k] X fun u _ => u = .bool true := by
  obtain ⟨A, cp, rfl⟩ := h.form
  have hc6 : C % 6 < 6 := Nat.mod_lt _ (by omega)
  have hr6 : R % 6 < 6 := Nat.mod_lt _ (by omega)
  have hlen := rawRows_len bs (R % 6) (C % 6)
  have hmk := fun (X : PMap) (hT : Tab X) (h : BytesR X (.slice A bs.length cp) bs) => make_spec hT R C hR hC h
  generalize rawRows bs (R % 6) (C % 6) = ms at *
  generalize C % 6 = c at *
  have hal := allR_len (c := c) (ms := ms) (by omega) hc6
  refine Spec.enter Tryd.func3 rfl Tryd.ntmps3 rfl ?_
  intro w0 hw0
  refine T.seq ?_
  refine T.region ?_
  refine SL.x (op_box rfl) rfl rfl ?_
  rintro _ _ _ ⟨B2, rfl, rfl, rfl⟩
  refine SL.y (op_assign rfl) rfl rfl ?_
  refine SL.nil ?_
  refine T.seq ?_
  refine T.seq ?_
  refine T.region ?_
  -- op
  refine SL.x (op_callF en13 (vs := []) rfl (awake_spec hT)) rfl rfl ?_
  rintro _ _ X1 ⟨rfl, hX1, rfl⟩
  refine SL.y (op_not rfl) rfl rfl ?_
  refine SL.nil ?_
  refine T.condF rfl ?_
  refine T.skip ?_
  refine T.seq ?_
  refine T.region ?_
  first | refine SL.y (op_load ty24 rfl (by repeat (first | exact AtO.here | apply AtO.there)) rfl) rfl rfl ?_ | refine SL.y (op_loadX ty24 rfl (by assumption) rfl) rfl rfl ?_
  -- op
  refine SL.x (op_callF en14 (vs := [_]) rfl (hmk _ (hT.mono hX1) (h.mono hX1))) rfl rfl ?_
  rintro _ _ X2 ⟨rfl, hX2, pm, lat, t, rfl, hM, hL, hC⟩
  obtain ⟨bm, rfl⟩ := hM.ptr
  obtain ⟨At, cpt, rfl⟩ := hC.1.form
  have hT2 := (hT.mono hX1).mono hX2
  refine SL.y (op_move rfl) rfl rfl ?_
  refine SL.y (op_extract rfl rfl) rfl rfl ?_
  refine SL.y (op_extract rfl rfl) rfl rfl ?_
  refine SL.y (op_extract rfl rfl) rfl rfl ?_
  refine SL.y (op_assign rfl) rfl rfl ?_
  refine SL.y (op_assign rfl) rfl rfl ?_
  refine SL.y (op_assign rfl) rfl rfl ?_
  refine SL.nil ?_
  refine T.seq ?_
  refine T.seq ?_
  refine T.region ?_
  refine SL.y (op_move rfl) rfl rfl ?_
  refine SL.y (op_eqlNil Tryd.underlying27 rfl rfl) rfl rfl ?_
  refine SL.nil ?_
  refine T.condF rfl ?_
  refine T.skip ?_
  refine T.seq ?_
  refine T.region ?_
  refine SL.y (op_move rfl) rfl rfl ?_
  first | refine SL.y (op_convI64 Tryd.underlying25 Tryd.underlying3 rfl (by omega) (by omega)) rfl rfl ?_ | refine SL.y (op_convert Tryd.underlying25 Tryd.underlying3 rfl) rfl rfl ?_
  refine SL.y (op_assign rfl) rfl rfl ?_
  refine SL.nil ?_
  refine T.seq ?_
  refine T.region ?_
  refine SL.y (op_move rfl) rfl rfl ?_
  refine SL.y (op_move rfl) rfl rfl ?_
  -- op
  rcases Int.lt_or_le k 1 with hk | hk
  · skip
    refine SL.x (op_callF en15 (vs := [_, _]) rfl (lnewLow_spec hM k hk)) rfl rfl ?_
    rintro _ _ X3 ⟨rfl, hX3, rfl⟩
    refine SL.y (op_move rfl) rfl rfl ?_
    refine SL.y (op_extract rfl rfl) rfl rfl ?_
    refine SL.y (op_extract rfl rfl) rfl rfl ?_
    refine SL.y (op_assign rfl) rfl rfl ?_
    refine SL.y (op_assign rfl) rfl rfl ?_
    refine SL.nil ?_
    refine T.seq ?_
    refine T.region ?_
    -- op
    refine SL.x (op_callF en15 (vs := [_, _]) rfl (lnewNil_spec)) rfl rfl ?_
    rintro _ _ X4 ⟨rfl, hX4, rfl⟩
    refine SL.y (op_move rfl) rfl rfl ?_
    refine SL.y (op_extract rfl rfl) rfl rfl ?_
    refine SL.y (op_extract rfl rfl) rfl rfl ?_
    refine SL.y (op_assign rfl) rfl rfl ?_
    refine SL.y (op_assign rfl) rfl rfl ?_
    refine SL.nil ?_
    refine T.seq ?_
    refine T.block ?_
    refine T.seq ?_
    refine T.region ?_
    refine SL.y (op_move rfl) rfl rfl ?_
    first | refine SL.y (op_neqT rfl rfl (by omega)) rfl rfl ?_ | refine SL.y (op_neqF rfl rfl (by omega)) rfl rfl ?_ | refine SL.y (op_neq rfl rfl) rfl rfl ?_
    refine SL.y (op_assign rfl) rfl rfl ?_
    refine SL.nil ?_
    refine T.condF rfl ?_
    refine T.seq ?_
    refine T.region ?_
    refine SL.y (op_move rfl) rfl rfl ?_
    first | refine SL.y (op_lssT rfl rfl (by omega)) rfl rfl ?_ | refine SL.y (op_lssF rfl rfl (by omega)) rfl rfl ?_ | refine SL.y (op_lss rfl rfl) rfl rfl ?_
    refine SL.y (op_assign rfl) rfl rfl ?_
    refine SL.nil ?_
    refine T.condT rfl ?_
    refine T.seq ?_
    refine T.region ?_
    refine SL.y (op_move rfl) rfl rfl ?_
    first | refine SL.y (op_eqlT rfl rfl (by omega)) rfl rfl ?_ | refine SL.y (op_eqlF rfl rfl (by omega)) rfl rfl ?_ | refine SL.y (op_eql rfl rfl) rfl rfl ?_
    refine SL.y (op_move rfl) rfl rfl ?_
    first | refine SL.skip rfl rfl ?_ | refine SL.y (op_move rfl) rfl rfl ?_
    first | refine SL.skip rfl rfl ?_ | refine SL.y (op_eqlNil Tryd.underlying28 rfl rfl) rfl rfl ?_
    first | refine SL.y (op_pickT rfl rfl) rfl rfl ?_ | refine SL.y (op_pickF rfl rfl) rfl rfl ?_ | refine SL.y (op_pickB rfl rfl rfl) rfl rfl ?_
    refine SL.y (op_assign rfl) rfl rfl ?_
    refine SL.nil ?_
    -- ret
    refine T.ret1 rfl (ResIs.tmp rfl) ?_
    rfl
  · obtain ⟨n, rfl⟩ := Int.eq_ofNat_of_zero_le (show 0 ≤ k by omega)
    rcases Nat.lt_or_ge n (allR c ms).length with hn | hn
    · skip
      refine SL.x (op_callF en15 (vs := [_, _]) rfl (lnewA_spec hT2 hM hc6 n (by omega) (by omega))) rfl rfl ?_
      rintro u3 _ X3 ⟨rfl, hX3, hL3⟩
      rw [if_neg (by omega)] at hL3
      subst hL3
      refine SL.y (op_move rfl) rfl rfl ?_
      refine SL.y (op_extract rfl rfl) rfl rfl ?_
      refine SL.y (op_extract rfl rfl) rfl rfl ?_
      refine SL.y (op_assign rfl) rfl rfl ?_
      refine SL.y (op_assign rfl) rfl rfl ?_
      refine SL.nil ?_
      refine T.seq ?_
      refine T.region ?_
      -- op
      refine SL.x (op_callF en15 (vs := [_, _]) rfl (lnewNil_spec)) rfl rfl ?_
      rintro _ _ X4 ⟨rfl, hX4, rfl⟩
      refine SL.y (op_move rfl) rfl rfl ?_
      refine SL.y (op_extract rfl rfl) rfl rfl ?_
      refine SL.y (op_extract rfl rfl) rfl rfl ?_
      refine SL.y (op_assign rfl) rfl rfl ?_
      refine SL.y (op_assign rfl) rfl rfl ?_
      refine SL.nil ?_
      refine T.seq ?_
      refine T.block ?_
      refine T.seq ?_
      refine T.region ?_
      refine SL.y (op_move rfl) rfl rfl ?_
      first | refine SL.y (op_neqT rfl rfl (by omega)) rfl rfl ?_ | refine SL.y (op_neqF rfl rfl (by omega)) rfl rfl ?_ | refine SL.y (op_neq rfl rfl) rfl rfl ?_
      refine SL.y (op_assign rfl) rfl rfl ?_
      refine SL.nil ?_
      refine T.condF rfl ?_
      refine T.seq ?_
      refine T.region ?_
      refine SL.y (op_move rfl) rfl rfl ?_
      first | refine SL.y (op_lssT rfl rfl (by omega)) rfl rfl ?_ | refine SL.y (op_lssF rfl rfl (by omega)) rfl rfl ?_ | refine SL.y (op_lss rfl rfl) rfl rfl ?_
      refine SL.y (op_assign rfl) rfl rfl ?_
      refine SL.nil ?_
      refine T.condF rfl ?_
      refine T.seq ?_
      refine T.region ?_
      refine SL.y (op_move rfl) rfl rfl ?_
      refine SL.y (op_move rfl) rfl rfl ?_
      refine SL.y (op_lenS Tryd.underlying29 rfl) rfl rfl ?_
      first | refine SL.y (op_lssT rfl rfl (by omega)) rfl rfl ?_ | refine SL.y (op_lssF rfl rfl (by omega)) rfl rfl ?_ | refine SL.y (op_lss rfl rfl) rfl rfl ?_
      refine SL.y (op_assign rfl) rfl rfl ?_
      refine SL.nil ?_
      refine T.condT rfl ?_
      refine T.seq ?_
      refine T.region ?_
      refine SL.y (op_move rfl) rfl rfl ?_
      first | refine SL.y (op_eqlT rfl rfl (by omega)) rfl rfl ?_ | refine SL.y (op_eqlF rfl rfl (by omega)) rfl rfl ?_ | refine SL.y (op_eql rfl rfl) rfl rfl ?_
      refine SL.y (op_move rfl) rfl rfl ?_
      first | refine SL.skip rfl rfl ?_ | refine SL.y (op_move rfl) rfl rfl ?_
      first | refine SL.skip rfl rfl ?_ | refine SL.y (op_eqlNil Tryd.underlying28 rfl rfl) rfl rfl ?_
      first | refine SL.y (op_pickT rfl rfl) rfl rfl ?_ | refine SL.y (op_pickF rfl rfl) rfl rfl ?_ | refine SL.y (op_pickB rfl rfl rfl) rfl rfl ?_
      refine SL.y (op_assign rfl) rfl rfl ?_
      refine SL.nil ?_
      -- ret
      refine T.ret1 rfl (ResIs.tmp rfl) ?_
      rfl
    · refine SL.x (op_callF en15 (vs := [_, _]) rfl (lnewA_spec hT2 hM hc6 n (by omega) (by omega))) rfl rfl ?_
      rintro u3 _ X3 ⟨rfl, hX3, hL3⟩
      rw [if_pos (by omega)] at hL3
      obtain ⟨w, rfl, hL3⟩ := hL3
      refine SL.y (op_move rfl) rfl rfl ?_
      refine SL.y (op_extract rfl rfl) rfl rfl ?_
      refine SL.y (op_extract rfl rfl) rfl rfl ?_
      refine SL.y (op_assign rfl) rfl rfl ?_
      refine SL.y (op_assign rfl) rfl rfl ?_
      refine SL.nil ?_
      refine T.seq ?_
      refine T.region ?_
      -- op
      refine SL.x (op_callF en15 (vs := [_, _]) rfl (lnewNil_spec)) rfl rfl ?_
      rintro _ _ X4 ⟨rfl, hX4, rfl⟩
      refine SL.y (op_move rfl) rfl rfl ?_
      refine SL.y (op_extract rfl rfl) rfl rfl ?_
      refine SL.y (op_extract rfl rfl) rfl rfl ?_
      refine SL.y (op_assign rfl) rfl rfl ?_
      refine SL.y (op_assign rfl) rfl rfl ?_
      refine SL.nil ?_
      refine T.seq ?_
      refine T.block ?_
      refine T.seq ?_
      refine T.region ?_
      refine SL.y (op_move rfl) rfl rfl ?_
      first | refine SL.y (op_neqT rfl rfl (by omega)) rfl rfl ?_ | refine SL.y (op_neqF rfl rfl (by omega)) rfl rfl ?_ | refine SL.y (op_neq rfl rfl) rfl rfl ?_
      refine SL.y (op_assign rfl) rfl rfl ?_
      refine SL.nil ?_
      refine T.condF rfl ?_
      refine T.seq ?_
      refine T.region ?_
      refine SL.y (op_move rfl) rfl rfl ?_
      first | refine SL.y (op_lssT rfl rfl (by omega)) rfl rfl ?_ | refine SL.y (op_lssF rfl rfl (by omega)) rfl rfl ?_ | refine SL.y (op_lss rfl rfl) rfl rfl ?_
      refine SL.y (op_assign rfl) rfl rfl ?_
      refine SL.nil ?_
      refine T.condF rfl ?_
      refine T.seq ?_
      refine T.region ?_
      refine SL.y (op_move rfl) rfl rfl ?_
      refine SL.y (op_move rfl) rfl rfl ?_
      refine SL.y (op_lenS Tryd.underlying29 rfl) rfl rfl ?_
      first | refine SL.y (op_lssT rfl rfl (by omega)) rfl rfl ?_ | refine SL.y (op_lssF rfl rfl (by omega)) rfl rfl ?_ | refine SL.y (op_lss rfl rfl) rfl rfl ?_
      refine SL.y (op_assign rfl) rfl rfl ?_
      refine SL.nil ?_
      refine T.condF rfl ?_
      refine T.skip ?_
      refine T.blk ?_
      refine T.seq ?_
      refine T.region ?_
      refine SL.y (op_move rfl) rfl rfl ?_
      first | refine SL.y (op_eqlT rfl rfl (by omega)) rfl rfl ?_ | refine SL.y (op_eqlF rfl rfl (by omega)) rfl rfl ?_ | refine SL.y (op_eql rfl rfl) rfl rfl ?_
      refine SL.y (op_move rfl) rfl rfl ?_
      first | refine SL.skip rfl rfl ?_ | refine SL.y (op_move rfl) rfl rfl ?_
      -- op
      refine SL.x (op_callF en16 (vs := [_]) rfl (llen_spec (.inl (hL3.mono hX4)))) rfl rfl ?_
      rintro _ _ X5 ⟨rfl, hX5, rfl⟩
      first | refine SL.skip rfl rfl ?_ | refine SL.y (op_move rfl) rfl rfl ?_
      first | refine SL.skip rfl rfl ?_ | refine SL.y (op_lenS Tryd.underlying29 rfl) rfl rfl ?_
      first | refine SL.skip rfl rfl ?_ | refine SL.y (op_eqlT rfl rfl (by omega)) rfl rfl ?_ | refine SL.y (op_eqlF rfl rfl (by omega)) rfl rfl ?_ | refine SL.y (op_eql rfl rfl) rfl rfl ?_
      first | refine SL.y (op_pickT rfl rfl) rfl rfl ?_ | refine SL.y (op_pickF rfl rfl) rfl rfl ?_ | refine SL.y (op_pickB rfl rfl rfl) rfl rfl ?_
      refine SL.y (op_assign rfl) rfl rfl ?_
      refine SL.nil ?_
      -- ret
      refine T.ret1 rfl (ResIs.tmp rfl) ?_
      rfl
end Go.Proofs.YtoheffglppbcbaaDoor
