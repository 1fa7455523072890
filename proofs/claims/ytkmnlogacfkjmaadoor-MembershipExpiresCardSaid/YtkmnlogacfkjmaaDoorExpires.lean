/- MembershipExpires answers true. -/
import Derived.Test.YtkmnlogacfkjmaaDoorAw
import Derived.Test.YtkmnlogacfkjmaaDoorLaw2
namespace Go.Proofs.YtkmnlogacfkjmaaDoor
section
set_option maxRecDepth 100000
theorem en12 : Enters Tryd.prog 12 := enters_mk Tryd.func12 (by kernel_rfl) rfl
theorem en13 : Enters Tryd.prog 13 := enters_mk Tryd.func13 (by kernel_rfl) rfl
theorem en17 : Enters Tryd.prog 17 := enters_mk Tryd.func17 (by kernel_rfl) rfl
theorem en28 : Enters Tryd.prog 28 := enters_mk Tryd.func28 (by kernel_rfl) rfl
theorem en29 : Enters Tryd.prog 29 := enters_mk Tryd.func29 (by kernel_rfl) rfl
end
open Go.RowKit
theorem expires_spec {X : PMap} (hT : Tab X) {s : Value} {l : List Rw} (h : RawR X s l) (hl : rawOk l) (k k2 : Nat) : Spec Tryd.prog 6 [s, .int .u8 (k : Int), .int .u8 (k2 : Int)] X fun u _ => u = .bool true := by
  obtain ⟨A, cp, rfl⟩ := h.form
  refine Spec.enter Tryd.func6 rfl Tryd.ntmps6 rfl ?_
  intro w0 hw0
  refine T.seq ?_
  refine T.region ?_
  refine SL.y (op_assign rfl) rfl rfl ?_
  refine SL.nil ?_
  refine T.seq ?_
  refine T.seq ?_
  refine T.region ?_
  -- op
  refine SL.x (op_callF en12 (vs := []) rfl (awake12_spec hT)) rfl rfl ?_
  rintro _ _ X1 ⟨rfl, hX1, rfl⟩
  refine SL.y (op_not rfl) rfl rfl ?_
  refine SL.nil ?_
  refine T.condF rfl ?_
  refine T.skip ?_
  refine T.seq ?_
  refine T.region ?_
  refine SL.y (op_move rfl) rfl rfl ?_
  -- op
  refine SL.x (op_callF en13 (vs := [_]) rfl (make12_spec (h.mono hX1) hl)) rfl rfl ?_
  rintro _ _ X2 ⟨rfl, hX2, p, t, rfl, hp, ht⟩
  have hw := mkE_wf l
  have hln := mkE_len l
  generalize mkE l = L at *
  obtain ⟨bp, sv, rfl, hb, hs⟩ := hp
  obtain ⟨At, ct, rfl⟩ := SliceR.form ht
  have hP : BkR X2 (.pointer (some ⟨bp, 0, none⟩)) L := ⟨bp, sv, rfl, hb, hs⟩
  refine SL.y (op_move rfl) rfl rfl ?_
  refine SL.y (op_extract rfl rfl) rfl rfl ?_
  refine SL.y (op_extract rfl rfl) rfl rfl ?_
  refine SL.y (op_assign rfl) rfl rfl ?_
  refine SL.y (op_assign rfl) rfl rfl ?_
  refine SL.nil ?_
  refine T.seq ?_
  refine T.seq ?_
  refine T.region ?_
  refine SL.y (op_move rfl) rfl rfl ?_
  refine SL.y (op_eqlNil Tryd.underlying24 rfl rfl) rfl rfl ?_
  refine SL.nil ?_
  refine T.condF rfl ?_
  refine T.skip ?_
  refine T.seq ?_
  refine T.region ?_
  refine SL.y (op_move rfl) rfl rfl ?_
  -- to 23: op
  refine SL.y (op_remN (q := 25) rfl rfl rfl (by omega)) rfl rfl ?_
  generalize hd : k % 25 = d
  have hd25 : d < 25 := by omega
  first | refine SL.y (op_convI64 Tryd.underlying5 Tryd.underlying3 rfl (by omega) (by omega)) rfl rfl ?_ | refine SL.y (op_convert Tryd.underlying5 Tryd.underlying3 rfl) rfl rfl ?_
  refine SL.y (op_assign rfl) rfl rfl ?_
  refine SL.nil ?_
  refine T.seq ?_
  refine T.region ?_
  refine SL.y (op_move rfl) rfl rfl ?_
  refine SL.y (op_move rfl) rfl rfl ?_
  -- op
  refine SL.x (op_callF en27 (vs := [_, _]) rfl (expire_spec hP (by omega) (d := d))) rfl rfl ?_
  rintro c0 _ X3 ⟨rfl, hX3, hc⟩
  have hwc := exp_wf hw d
  have hlc := exp_le L d
  obtain ⟨bc, sc, rfl, hbc, hsc⟩ := hc
  have hC : BkR X3 (.pointer (some ⟨bc, 0, none⟩)) (expE L d) := ⟨bc, sc, rfl, hbc, hsc⟩
  refine SL.y (op_assign rfl) rfl rfl ?_
  refine SL.nil ?_
  refine T.seq ?_
  refine T.seq ?_
  refine T.region ?_
  refine SL.y (op_assign (v := .int .i64 ((1 : Nat) : Int)) rfl) rfl rfl ?_
  refine SL.nil ?_
  refine T.block ?_
  -- loop live [2, 6, 7, 8, 9, 10, 11]
  refine T.loopW (fun m env own X' => ∃ u : Nat, m = 6 - u ∧ 1 ≤ u ∧ u ≤ 6 ∧ X3.le X' ∧ env = [(2, .int .u8 (k2 : Int)), (7, .pointer (some ⟨bp, 0, none⟩)), (8, .slice At L.length ct), (9, .int .i64 (d : Int)), (10, .pointer (some ⟨bc, 0, none⟩)), (11, .int .i64 (u : Int))] ∧ own = []) 5 ⟨1, by omega, by omega, by omega, PMap.le_refl _, rfl, rfl⟩ (by repeat (first | exact Sub.nil | refine Sub.cons rfl ?_)) ?_
  rintro m _ _ X4 ⟨u, rfl, hu1, hu6, hX4, rfl, rfl⟩
  rcases Nat.lt_or_ge u 6 with hul | hul
  · skip
    refine T.seq ?_
    refine T.seq ?_
    refine T.region ?_
    refine SL.y (op_move rfl) rfl rfl ?_
    first | refine SL.y (op_leqT rfl rfl (by omega)) rfl rfl ?_ | refine SL.y (op_leqF rfl rfl (by omega)) rfl rfl ?_ | refine SL.y (op_leq rfl rfl) rfl rfl ?_
    refine SL.nil ?_
    refine T.condT rfl ?_
    refine T.skip ?_
    refine T.seq ?_
    refine T.block ?_
    refine T.seq ?_
    refine T.region ?_
    refine SL.y (op_move rfl) rfl rfl ?_
    refine SL.y (op_move rfl) rfl rfl ?_
    -- to 34: op
    refine SL.y (op_remN (q := 10) rfl rfl rfl (by omega)) rfl rfl ?_
    first | refine SL.y (op_convI64 Tryd.underlying5 Tryd.underlying3 rfl (by omega) (by omega)) rfl rfl ?_ | refine SL.y (op_convert Tryd.underlying5 Tryd.underlying3 rfl) rfl rfl ?_
    -- to 36: op
    have he10 : k2 % 10 < 10 := Nat.mod_lt _ (by omega)
    refine SL.y (op_addN rfl rfl (by omega)) rfl rfl ?_
    generalize hx : d + k2 % 10 = x
    refine SL.y (op_assign rfl) rfl rfl ?_
    refine SL.nil ?_
    refine T.seq ?_
    refine T.region ?_
    refine SL.y (op_move rfl) rfl rfl ?_
    refine SL.y (op_move rfl) rfl rfl ?_
    refine SL.y (op_move rfl) rfl rfl ?_
    -- op
    refine SL.x (op_callF en18 (vs := [_, _, _]) rfl (on_spec (.inl (hC.mono hX4)) hwc (by omega) (u := u) (d := x))) rfl rfl ?_
    rintro s1 _ X5 ⟨rfl, hX5, hs1⟩
    refine SL.y (op_move rfl) rfl rfl ?_
    refine SL.y (op_move rfl) rfl rfl ?_
    refine SL.y (op_move rfl) rfl rfl ?_
    -- op
    refine SL.x (op_callF en18 (vs := [_, _, _]) rfl (on_spec (.inl (((hP.mono hX3).mono hX4).mono hX5)) hw (by omega) (u := u) (d := x))) rfl rfl ?_
    rintro s2 _ X6 ⟨rfl, hX6, hs2⟩
    refine SL.x (op_callF en28 (vs := [_, _]) rfl (equal_spec (hs1.mono hX6) hs2)) rfl rfl ?_
    rintro _ _ X7 ⟨rfl, hX7, rfl⟩
    rw [decide_eq_true (on_exp (by omega))]
    have hX47 := (hX5.trans' hX6).trans' hX7
    refine SL.y (op_not rfl) rfl rfl ?_
    refine SL.y (op_move rfl) rfl rfl ?_
    first | refine SL.skip rfl rfl ?_ | refine SL.y (op_move rfl) rfl rfl ?_
    first | refine SL.skip rfl rfl ?_ | refine SL.y (op_move rfl) rfl rfl ?_
    first | refine SL.skip rfl rfl ?_ | refine SL.y (op_move rfl) rfl rfl ?_
    -- to 51: op
    refine SL.y (op_sub rfl rfl (by omega) (by omega)) rfl rfl ?_
    -- op
    refine SL.x (op_callF en18 (vs := [_, _, _]) rfl (on_spec (.inl ((hC.mono hX4).mono hX47)) hwc (by omega) (u := u) (d := (d : Int) - 1))) rfl rfl ?_
    rintro s3 _ X8 ⟨rfl, hX8, hs3⟩
    first | refine SL.skip rfl rfl ?_ | refine SL.y (op_move rfl) rfl rfl ?_
    first | refine SL.skip rfl rfl ?_ | refine SL.y (op_move rfl) rfl rfl ?_
    first | refine SL.skip rfl rfl ?_ | refine SL.y (op_move rfl) rfl rfl ?_
    -- op
    refine SL.x (op_callF en18 (vs := [_, _, _]) rfl (on_spec (.inl (((hC.mono hX4).mono hX47).mono hX8)) hwc (by omega) (u := u) (d := d))) rfl rfl ?_
    rintro s4 _ X9 ⟨rfl, hX9, hs4⟩
    refine SL.x (op_callF en28 (vs := [_, _]) rfl (equal_spec (hs3.mono hX9) hs4)) rfl rfl ?_
    rintro _ _ X10 ⟨rfl, hX10, rfl⟩
    have hX410 := hX4.trans' (((hX47.trans' hX8).trans' hX9).trans' hX10)
    have hcase : decide (onM (expE L d) u ((d : Int) - 1) = onM (expE L d) u d) = true ∨ (decide (onM (expE L d) u ((d : Int) - 1) = onM (expE L d) u d) = false ∧ d = 0) := by
      rcases Nat.eq_zero_or_pos d with h0 | h0
      · cases decide (onM (expE L d) u ((d : Int) - 1) = onM (expE L d) u d) <;> simp [h0]
      · exact .inl (decide_eq_true (on_exp_before (by omega) (by omega)))
    rcases hcase with hc | ⟨hc, h0⟩
    · rw [hc]
      first | refine SL.skip rfl rfl ?_ | refine SL.y (op_not rfl) rfl rfl ?_
      first | refine SL.skip rfl rfl ?_ | refine SL.y (op_move rfl) rfl rfl ?_
      first | refine SL.skip rfl rfl ?_ | refine SL.y (op_move rfl) rfl rfl ?_
      first | refine SL.skip rfl rfl ?_ | refine SL.y (op_gtrT rfl rfl (by omega)) rfl rfl ?_ | refine SL.y (op_gtrF rfl rfl (by omega)) rfl rfl ?_ | refine SL.y (op_gtr rfl rfl) rfl rfl ?_
      first | refine SL.skip rfl rfl ?_ | refine SL.y (op_pickT rfl rfl) rfl rfl ?_ | refine SL.y (op_pickF rfl rfl) rfl rfl ?_ | refine SL.y (op_pickB rfl rfl rfl) rfl rfl ?_
      first | refine SL.y (op_pickT rfl rfl) rfl rfl ?_ | refine SL.y (op_pickF rfl rfl) rfl rfl ?_ | refine SL.y (op_pickB rfl rfl rfl) rfl rfl ?_
      refine SL.nil ?_
      refine T.condF rfl ?_
      refine T.skip ?_
      refine T.blk ?_
      refine T.region ?_
      refine SL.y (op_move rfl) rfl rfl ?_
      first | refine SL.y (op_addN (q := 1) rfl rfl (by omega)) rfl rfl ?_ | refine SL.y (op_add rfl rfl (by omega) (by omega)) rfl rfl ?_ | refine SL.y (op_addW rfl rfl) rfl rfl ?_
      refine SL.y (op_assign rfl) rfl rfl ?_
      refine SL.nil ?_
      -- cut
      exact T.backW (6 - (u + 1)) (by omega) ⟨u + 1, rfl, by omega, by omega, hX410, rfl, rfl⟩ (by repeat (first | exact Sub.nil | refine Sub.cons rfl ?_))
    · rw [hc]
      first | refine SL.skip rfl rfl ?_ | refine SL.y (op_not rfl) rfl rfl ?_
      first | refine SL.skip rfl rfl ?_ | refine SL.y (op_move rfl) rfl rfl ?_
      first | refine SL.skip rfl rfl ?_ | refine SL.y (op_move rfl) rfl rfl ?_
      first | refine SL.skip rfl rfl ?_ | refine SL.y (op_gtrT rfl rfl (by omega)) rfl rfl ?_ | refine SL.y (op_gtrF rfl rfl (by omega)) rfl rfl ?_ | refine SL.y (op_gtr rfl rfl) rfl rfl ?_
      first | refine SL.skip rfl rfl ?_ | refine SL.y (op_pickT rfl rfl) rfl rfl ?_ | refine SL.y (op_pickF rfl rfl) rfl rfl ?_ | refine SL.y (op_pickB rfl rfl rfl) rfl rfl ?_
      first | refine SL.y (op_pickT rfl rfl) rfl rfl ?_ | refine SL.y (op_pickF rfl rfl) rfl rfl ?_ | refine SL.y (op_pickB rfl rfl rfl) rfl rfl ?_
      refine SL.nil ?_
      refine T.condF rfl ?_
      refine T.skip ?_
      refine T.blk ?_
      refine T.region ?_
      refine SL.y (op_move rfl) rfl rfl ?_
      first | refine SL.y (op_addN (q := 1) rfl rfl (by omega)) rfl rfl ?_ | refine SL.y (op_add rfl rfl (by omega) (by omega)) rfl rfl ?_ | refine SL.y (op_addW rfl rfl) rfl rfl ?_
      refine SL.y (op_assign rfl) rfl rfl ?_
      refine SL.nil ?_
      -- cut
      exact T.backW (6 - (u + 1)) (by omega) ⟨u + 1, rfl, by omega, by omega, hX410, rfl, rfl⟩ (by repeat (first | exact Sub.nil | refine Sub.cons rfl ?_))
  · obtain rfl : u = 6 := by omega
    have hX24 := hX3.trans' hX4
    refine T.seq ?_
    refine T.seq ?_
    refine T.region ?_
    refine SL.y (op_move rfl) rfl rfl ?_
    first | refine SL.y (op_leqT rfl rfl (by omega)) rfl rfl ?_ | refine SL.y (op_leqF rfl rfl (by omega)) rfl rfl ?_ | refine SL.y (op_leq rfl rfl) rfl rfl ?_
    refine SL.nil ?_
    refine T.condF rfl ?_
    refine T.exit (T.exitCode (T.exitCut (T.exitBlk ?_)))
    refine T.seq ?_
    refine T.region ?_
    refine SL.y (op_move rfl) rfl rfl ?_
    refine SL.y (op_move rfl) rfl rfl ?_
    -- op
    refine SL.x (op_callF en29 (vs := [_, _]) rfl (is_spec (hP.mono hX24) (ht.mono hX24) (by omega))) rfl rfl ?_
    rintro _ _ X5 ⟨rfl, hX5, rfl⟩
    rw [decide_eq_true rfl]
    have hC5 := (hC.mono hX4).mono hX5
    refine SL.y (op_move rfl) rfl rfl ?_
    first | refine SL.skip rfl rfl ?_ | refine SL.y (op_move rfl) rfl rfl ?_
    first | refine SL.skip rfl rfl ?_ | refine SL.y (op_move rfl) rfl rfl ?_
    -- op
    refine SL.x (op_callF en27 (vs := [_, _]) rfl (expire_spec hC5 (by omega) (d := d))) rfl rfl ?_
    rintro c1 _ X6 ⟨rfl, hX6, hc1⟩
    rw [exp_exp] at hc1
    first | refine SL.skip rfl rfl ?_ | refine SL.y (op_move rfl) rfl rfl ?_
    -- op
    refine SL.x (op_callF en17 (vs := [_, _]) rfl (bequal_spec hc1 (hC5.mono hX6) (by omega))) rfl rfl ?_
    rintro _ _ X7 ⟨rfl, hX7, rfl⟩
    rw [decide_eq_true rfl]
    first | refine SL.y (op_pickT rfl rfl) rfl rfl ?_ | refine SL.y (op_pickF rfl rfl) rfl rfl ?_ | refine SL.y (op_pickB rfl rfl rfl) rfl rfl ?_
    refine SL.y (op_move rfl) rfl rfl ?_
    first | refine SL.skip rfl rfl ?_ | refine SL.y (op_move rfl) rfl rfl ?_
    -- op
    refine SL.x (op_callF en26 (vs := [_]) rfl (elen_spec (.inl ((hC5.mono hX6).mono hX7)))) rfl rfl ?_
    rintro _ _ X8 ⟨rfl, hX8, rfl⟩
    first | refine SL.skip rfl rfl ?_ | refine SL.y (op_move rfl) rfl rfl ?_
    -- op
    refine SL.x (op_callF en26 (vs := [_]) rfl (elen_spec (.inl ((((((hP.mono hX24).mono hX5).mono hX6).mono hX7).mono hX8))))) rfl rfl ?_
    rintro _ _ X9 ⟨rfl, hX9, rfl⟩
    first | refine SL.skip rfl rfl ?_ | refine SL.y (op_leqT rfl rfl (by omega)) rfl rfl ?_ | refine SL.y (op_leqF rfl rfl (by omega)) rfl rfl ?_ | refine SL.y (op_leq rfl rfl) rfl rfl ?_
    first | refine SL.y (op_pickT rfl rfl) rfl rfl ?_ | refine SL.y (op_pickF rfl rfl) rfl rfl ?_ | refine SL.y (op_pickB rfl rfl rfl) rfl rfl ?_
    refine SL.y (op_assign rfl) rfl rfl ?_
    refine SL.nil ?_
    -- ret
    refine T.ret1 rfl (ResIs.tmp rfl) ?_
    rfl
end Go.Proofs.YtkmnlogacfkjmaaDoor
