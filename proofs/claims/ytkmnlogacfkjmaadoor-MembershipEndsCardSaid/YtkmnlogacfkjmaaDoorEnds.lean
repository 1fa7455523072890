/- MembershipEnds answers true. -/
import Derived.Test.YtkmnlogacfkjmaaDoorAw
import Derived.Test.YtkmnlogacfkjmaaDoorLaw2
namespace Go.Proofs.YtkmnlogacfkjmaaDoor
section
set_option maxRecDepth 100000
theorem en12 : Enters Tryd.prog 12 := enters_mk Tryd.func12 (by kernel_rfl) rfl
theorem en13 : Enters Tryd.prog 13 := enters_mk Tryd.func13 (by kernel_rfl) rfl
theorem en19 : Enters Tryd.prog 19 := enters_mk Tryd.func19 (by kernel_rfl) rfl
theorem en22 : Enters Tryd.prog 22 := enters_mk Tryd.func22 (by kernel_rfl) rfl
end
open Go.RowKit
theorem ends_spec {X : PMap} (hT : Tab X) {s : Value} {l : List Rw} (h : RawR X s l) (hl : rawOk l) (k : Nat) (_hk : k < 256) : Spec Tryd.prog 4 [s, .int .u8 (k : Int)] X fun u _ => u = .bool true := by
  obtain ⟨A, cp, rfl⟩ := h.form
  refine Spec.enter Tryd.func4 rfl Tryd.ntmps4 rfl ?_
  intro w0 hw0
  refine T.seq ?_
  refine T.region ?_
  refine SL.y (op_assign rfl) rfl rfl ?_
  refine SL.nil ?_
  refine T.seq ?_
  refine T.seq ?_
  refine T.region ?_
  -- op
  refine SL.x (op_callF en12 (vs := []) rfl (awake12_spec hT)) rfl rfl ?_
  rintro _ _ X1 ⟨rfl, hX1, rfl⟩
  refine SL.y (op_not rfl) rfl rfl ?_
  refine SL.nil ?_
  refine T.condF rfl ?_
  refine T.skip ?_
  refine T.seq ?_
  refine T.region ?_
  refine SL.y (op_move rfl) rfl rfl ?_
  -- op
  refine SL.x (op_callF en13 (vs := [_]) rfl (make12_spec (h.mono hX1) hl)) rfl rfl ?_
  rintro _ _ X2 ⟨rfl, hX2, p, t, rfl, hp, ht⟩
  have hw := mkE_wf l
  have hln := mkE_len l
  generalize mkE l = L at *
  obtain ⟨bp, sv, rfl, hb, hs⟩ := hp
  obtain ⟨At, ct, rfl⟩ := SliceR.form ht
  have hP : BkR X2 (.pointer (some ⟨bp, 0, none⟩)) L := ⟨bp, sv, rfl, hb, hs⟩
  refine SL.y (op_move rfl) rfl rfl ?_
  refine SL.y (op_extract rfl rfl) rfl rfl ?_
  refine SL.y (op_extract rfl rfl) rfl rfl ?_
  refine SL.y (op_assign rfl) rfl rfl ?_
  refine SL.y (op_assign rfl) rfl rfl ?_
  refine SL.nil ?_
  refine T.seq ?_
  refine T.seq ?_
  refine T.region ?_
  refine SL.y (op_move rfl) rfl rfl ?_
  refine SL.y (op_eqlNil Tryd.underlying24 rfl rfl) rfl rfl ?_
  refine SL.nil ?_
  refine T.condF rfl ?_
  refine T.skip ?_
  refine T.seq ?_
  refine T.region ?_
  refine SL.y (op_move rfl) rfl rfl ?_
  -- to 23: op
  refine SL.y (op_remN (q := 25) rfl rfl rfl (by omega)) rfl rfl ?_
  generalize hd : k % 25 = d
  have hd25 : d < 25 := by omega
  first | refine SL.y (op_convI64 Tryd.underlying5 Tryd.underlying3 rfl (by omega) (by omega)) rfl rfl ?_ | refine SL.y (op_convert Tryd.underlying5 Tryd.underlying3 rfl) rfl rfl ?_
  refine SL.y (op_assign rfl) rfl rfl ?_
  refine SL.nil ?_
  refine T.seq ?_
  refine T.seq ?_
  refine T.region ?_
  refine SL.y (op_assign (v := .int .i64 ((1 : Nat) : Int)) rfl) rfl rfl ?_
  refine SL.nil ?_
  refine T.block ?_
  -- loop live [4, 5, 7, 8]
  refine T.loopW (fun m env own X' => ∃ u : Nat, m = 6 - u ∧ 1 ≤ u ∧ u ≤ 6 ∧ X2.le X' ∧ env = [(5, .pointer (some ⟨bp, 0, none⟩)), (7, .int .i64 (d : Int)), (8, .int .i64 (u : Int))] ∧ own = []) 5 ⟨1, by omega, by omega, by omega, PMap.le_refl _, rfl, rfl⟩ (by repeat (first | exact Sub.nil | refine Sub.cons rfl ?_)) ?_
  rintro m _ _ X3 ⟨u, rfl, hu1, hu6, hX3, rfl, rfl⟩
  rcases Nat.lt_or_ge u 6 with hul | hul
  · skip
    refine T.seq ?_
    refine T.seq ?_
    refine T.region ?_
    refine SL.y (op_move rfl) rfl rfl ?_
    first | refine SL.y (op_leqT rfl rfl (by omega)) rfl rfl ?_ | refine SL.y (op_leqF rfl rfl (by omega)) rfl rfl ?_ | refine SL.y (op_leq rfl rfl) rfl rfl ?_
    refine SL.nil ?_
    refine T.condT rfl ?_
    refine T.skip ?_
    refine T.seq ?_
    refine T.block ?_
    refine T.seq ?_
    refine T.region ?_
    refine SL.y (op_move rfl) rfl rfl ?_
    refine SL.y (op_move rfl) rfl rfl ?_
    refine SL.y (op_move rfl) rfl rfl ?_
    -- op
    refine SL.x (op_callF en18 (vs := [_, _, _]) rfl (on_spec (BkN.mono (.inl hP) hX3) hw (by omega) (u := u) (d := d))) rfl rfl ?_
    rintro s1 _ X4 ⟨rfl, hX4, hs1⟩
    obtain ⟨A9, l9, c9, rfl⟩ := hs1.form
    refine SL.x (op_alloc z39) rfl rfl ?_
    rintro _ _ _ ⟨B9, rfl, rfl, rfl⟩
    refine SL.x (op_store ty39 rfl rfl (by repeat (first | exact AtO.here | apply AtO.there)) rfl rfl rfl) rfl rfl ?_
    rintro _ _ _ ⟨rfl, rfl⟩
    refine SL.nil ?_
    refine T.seq ?_
    refine T.seq ?_
    refine T.draw (by kernel_rfl) 8 [.t 0, .t 1, .t 2, .t 3, .t 5, .r 4, .r 6, .t 7] (by kernel_rfl) ?_
    refine SD.take rfl panicBody (op_move rfl) rfl rfl ?_
    refine SD.take rfl panicBody (op_move rfl) rfl rfl ?_
    refine SD.take rfl panicBody (op_move rfl) rfl rfl ?_
    first | refine SD.take rfl panicBody (op_addN (q := 1) rfl rfl (by omega)) rfl rfl ?_ | refine SD.take rfl panicBody (op_add rfl rfl (by omega) (by omega)) rfl rfl ?_ | refine SD.take rfl panicBody (op_addW rfl rfl) rfl rfl ?_
    first | refine SD.take rfl panicBody (op_load ty39 rfl (by repeat (first | exact AtO.here | apply AtO.there)) rfl) rfl rfl ?_ | refine SD.take rfl panicBody (op_loadX ty39 rfl (by assumption) rfl) rfl rfl ?_
    -- op
    refine SD.run rfl (op_callF en18 (vs := [_, _, _]) rfl (on_spec (BkN.mono (BkN.mono (.inl hP) hX3) hX4) hw (by omega) (u := u) (d := ((d + 1 : Nat) : Int)))) rfl rfl ?_
    rintro s2 _ X5 ⟨rfl, hX5, hs2⟩
    -- op
    refine SD.run rfl (op_callF en19 (vs := [_, _]) rfl (within_spec hs2 (hs1.mono hX5))) rfl rfl ?_
    rintro _ _ X6 ⟨rfl, hX6, rfl⟩
    rw [decide_eq_true (on_later hw (by omega) (by omega))]
    refine SD.take rfl panicBody (op_not rfl) rfl rfl ?_
    refine SD.nil ?_
    show SL _ _ _ _ _ _ _ [] _ _ _
    refine SL.nil ?_
    refine T.condF rfl ?_
    refine T.skip ?_
    refine T.seq ?_
    refine T.region ?_
    refine SL.y (op_assign (v := .int .i64 ((1 : Nat) : Int)) rfl) rfl rfl ?_
    refine SL.nil ?_
    refine T.block ?_
    -- loop live [4, 5, 7, 8, 9, 10]
    have hX23 := ((hX3.trans' hX4).trans' hX5).trans' hX6
    have hs1' := (hs1.mono hX5).mono hX6
    have hT6 := (((((hT.mono hX1).mono hX2).mono hX3).mono hX4).mono hX5).mono hX6
    refine T.loopW (fun m env own X' => ∃ r : Nat, m = 9 - r ∧ 1 ≤ r ∧ r ≤ 9 ∧ X6.le X' ∧ env = [(5, .pointer (some ⟨bp, 0, none⟩)), (7, .int .i64 (d : Int)), (8, .int .i64 (u : Int)), (9, .pointer (some ⟨B9, 0, none⟩)), (10, .int .i64 (r : Int))] ∧ own = [⟨B9, [.slice A9 l9 c9], 39, 1⟩]) 8 ⟨1, by omega, by omega, by omega, PMap.le_refl _, rfl, rfl⟩ (by repeat (first | exact Sub.nil | refine Sub.cons rfl ?_)) ?_
    rintro m _ _ X7 ⟨r, rfl, hr1, hr9, hX7, rfl, rfl⟩
    have hX27 := hX23.trans' hX7
    rcases Nat.lt_or_ge r 9 with hrl | hrl
    · skip
      refine T.seq ?_
      refine T.seq ?_
      refine T.region ?_
      refine SL.y (op_move rfl) rfl rfl ?_
      first | refine SL.y (op_leqT rfl rfl (by omega)) rfl rfl ?_ | refine SL.y (op_leqF rfl rfl (by omega)) rfl rfl ?_ | refine SL.y (op_leq rfl rfl) rfl rfl ?_
      refine SL.nil ?_
      refine T.condT rfl ?_
      refine T.skip ?_
      refine T.seq ?_
      refine T.block ?_
      refine T.seq ?_
      refine T.region ?_
      refine SL.y (op_move rfl) rfl rfl ?_
      refine SL.y (op_move rfl) rfl rfl ?_
      refine SL.y (op_move rfl) rfl rfl ?_
      -- op
      refine SL.x (op_callF en20 (vs := [_, _, _]) rfl (until_spec (BkN.mono (.inl hP) hX27) hw (by omega) (u := u) (r := r))) rfl rfl ?_
      rintro _ _ X8 ⟨rfl, hX8, rfl⟩
      refine SL.y (op_move rfl) rfl rfl ?_
      refine SL.y (op_extract rfl rfl) rfl rfl ?_
      refine SL.y (op_extract rfl rfl) rfl rfl ?_
      refine SL.y (op_assign rfl) rfl rfl ?_
      refine SL.y (op_assign rfl) rfl rfl ?_
      refine SL.nil ?_
      refine T.seq ?_
      refine T.region ?_
      first | refine SL.y (op_load ty39 rfl (by repeat (first | exact AtO.here | apply AtO.there)) rfl) rfl rfl ?_ | refine SL.y (op_loadX ty39 rfl (by assumption) rfl) rfl rfl ?_
      refine SL.y (op_move rfl) rfl rfl ?_
      -- op
      refine SL.x (op_callF en21 (vs := [_, _]) rfl (has_spec ((hs1'.mono hX7).mono hX8) (r : Int))) rfl rfl ?_
      rintro _ _ X9 ⟨rfl, hX9, rfl⟩
      rw [has_on hw (by omega)]
      refine SL.y (op_move rfl) rfl rfl ?_
      refine SL.y (op_move rfl) rfl rfl ?_
      refine SL.y (op_move rfl) rfl rfl ?_
      -- op
      refine SL.x (op_callF en23 (vs := [_, _, _]) rfl ((users_spec (BkN.mono (.inl hP) ((hX27.trans' hX8).trans' hX9)) hw (by omega) (r := r) (d := d)).pubG)) rfl rfl ?_
      rintro s2 _ X10 ⟨rfl, hX10, hs2⟩
      refine SL.y (op_move rfl) rfl rfl ?_
      -- op
      refine SL.x (op_callF en22 (vs := [_, _]) rfl (contains_spec hs2 (by have := usersE_len L r d; omega) (u : Int) (b := hasD L u r d) (user_on hw))) rfl rfl ?_
      rintro _ _ X11 ⟨rfl, hX11, rfl⟩
      -- to 61: op
      refine SL.y (op_neqBS Tryd.underlying4 rfl rfl) rfl rfl ?_
      refine SL.y (op_move rfl) rfl rfl ?_
      first | refine SL.skip rfl rfl ?_ | refine SL.y (op_load ty39 rfl (by repeat (first | exact AtO.here | apply AtO.there)) rfl) rfl rfl ?_ | refine SL.y (op_loadX ty39 rfl (by assumption) rfl) rfl rfl ?_
      first | refine SL.skip rfl rfl ?_ | refine SL.y (op_move rfl) rfl rfl ?_
      -- op
      refine SL.x (op_callF en21 (vs := [_, _]) rfl (has_spec ((((hs1'.mono hX7).mono hX8).mono hX9).mono hX10 |>.mono hX11) (r : Int))) rfl rfl ?_
      rintro _ _ X12 ⟨rfl, hX12, rfl⟩
      rw [has_on hw (by omega)]
      rw [show hasD L u r d = (bif (untilE L u r).isSome then decide ((d : Int) ≤ (untilE L u r).getD 0) else false) by
        unfold hasD
        cases untilE L u r with
        | none => rfl
        | some t =>
          simp only [Option.isSome_some, cond_true, Option.getD_some]
          exact decide_eq_decide.2 ⟨fun h => h.2.2, fun h => ⟨by omega, by omega, h⟩⟩]
      have hcases : (untilE L u r).isSome = true ∨ (untilE L u r).isSome = false := by cases (untilE L u r).isSome <;> simp
      rcases hcases with hc | hc
      · rw [hc]
        first | refine SL.skip rfl rfl ?_ | refine SL.y (op_move rfl) rfl rfl ?_
        first | refine SL.skip rfl rfl ?_ | refine SL.y (op_move rfl) rfl rfl ?_
        first | refine SL.skip rfl rfl ?_ | refine SL.y (op_move rfl) rfl rfl ?_
        first | refine SL.skip rfl rfl ?_ | refine SL.y (op_move rfl) rfl rfl ?_
        -- to 70: op
        refine SL.y (op_leq rfl rfl) rfl rfl ?_
        first | refine SL.skip rfl rfl ?_ | refine SL.y (op_pickT rfl rfl) rfl rfl ?_ | refine SL.y (op_pickF rfl rfl) rfl rfl ?_ | refine SL.y (op_pickB rfl rfl rfl) rfl rfl ?_
        -- to 72: op
        rw [cond_true]
        refine SL.y (op_neqBS Tryd.underlying4 rfl rfl) rfl rfl ?_
        first | refine SL.y (op_pickT rfl rfl) rfl rfl ?_ | refine SL.y (op_pickF rfl rfl) rfl rfl ?_ | refine SL.y (op_pickB rfl rfl rfl) rfl rfl ?_
        refine SL.nil ?_
        refine T.condF rfl ?_
        refine T.skip ?_
        refine T.blk ?_
        refine T.region ?_
        refine SL.y (op_move rfl) rfl rfl ?_
        first | refine SL.y (op_addN (q := 1) rfl rfl (by omega)) rfl rfl ?_ | refine SL.y (op_add rfl rfl (by omega) (by omega)) rfl rfl ?_ | refine SL.y (op_addW rfl rfl) rfl rfl ?_
        refine SL.y (op_assign rfl) rfl rfl ?_
        refine SL.nil ?_
        -- cut
        exact T.backW (9 - (r + 1)) (by omega) ⟨r + 1, rfl, by omega, by omega, ((((hX7.trans' hX8).trans' hX9).trans' hX10).trans' hX11).trans' hX12, rfl, rfl⟩ (by repeat (first | exact Sub.nil | refine Sub.cons rfl ?_))
      · rw [hc]
        first | refine SL.skip rfl rfl ?_ | refine SL.y (op_move rfl) rfl rfl ?_
        first | refine SL.skip rfl rfl ?_ | refine SL.y (op_move rfl) rfl rfl ?_
        first | refine SL.skip rfl rfl ?_ | refine SL.y (op_move rfl) rfl rfl ?_
        first | refine SL.skip rfl rfl ?_ | refine SL.y (op_move rfl) rfl rfl ?_
        first | refine SL.skip rfl rfl ?_ | refine SL.y (op_leqT rfl rfl (by omega)) rfl rfl ?_ | refine SL.y (op_leqF rfl rfl (by omega)) rfl rfl ?_ | refine SL.y (op_leq rfl rfl) rfl rfl ?_
        first | refine SL.skip rfl rfl ?_ | refine SL.y (op_pickT rfl rfl) rfl rfl ?_ | refine SL.y (op_pickF rfl rfl) rfl rfl ?_ | refine SL.y (op_pickB rfl rfl rfl) rfl rfl ?_
        -- to 72: op
        rw [cond_false]
        refine SL.y (op_neqBS Tryd.underlying4 rfl rfl) rfl rfl ?_
        first | refine SL.y (op_pickT rfl rfl) rfl rfl ?_ | refine SL.y (op_pickF rfl rfl) rfl rfl ?_ | refine SL.y (op_pickB rfl rfl rfl) rfl rfl ?_
        refine SL.nil ?_
        refine T.condF rfl ?_
        refine T.skip ?_
        refine T.blk ?_
        refine T.region ?_
        refine SL.y (op_move rfl) rfl rfl ?_
        first | refine SL.y (op_addN (q := 1) rfl rfl (by omega)) rfl rfl ?_ | refine SL.y (op_add rfl rfl (by omega) (by omega)) rfl rfl ?_ | refine SL.y (op_addW rfl rfl) rfl rfl ?_
        refine SL.y (op_assign rfl) rfl rfl ?_
        refine SL.nil ?_
        -- cut
        exact T.backW (9 - (r + 1)) (by omega) ⟨r + 1, rfl, by omega, by omega, ((((hX7.trans' hX8).trans' hX9).trans' hX10).trans' hX11).trans' hX12, rfl, rfl⟩ (by repeat (first | exact Sub.nil | refine Sub.cons rfl ?_))
    · obtain rfl : r = 9 := by omega
      refine T.seq ?_
      refine T.seq ?_
      refine T.region ?_
      refine SL.y (op_move rfl) rfl rfl ?_
      first | refine SL.y (op_leqT rfl rfl (by omega)) rfl rfl ?_ | refine SL.y (op_leqF rfl rfl (by omega)) rfl rfl ?_ | refine SL.y (op_leq rfl rfl) rfl rfl ?_
      refine SL.nil ?_
      refine T.condF rfl ?_
      refine T.exit (T.exitCode (T.exitCut (T.exitBlk ?_)))
      refine T.blk ?_
      refine T.region ?_
      refine SL.y (op_move rfl) rfl rfl ?_
      first | refine SL.y (op_addN (q := 1) rfl rfl (by omega)) rfl rfl ?_ | refine SL.y (op_add rfl rfl (by omega) (by omega)) rfl rfl ?_ | refine SL.y (op_addW rfl rfl) rfl rfl ?_
      refine SL.y (op_assign rfl) rfl rfl ?_
      refine SL.nil ?_
      -- cut
      refine T.drop B9 (by repeat (first | exact AtO.here | apply AtO.there)) ?_
      exact T.backW (6 - (u + 1)) (by omega) ⟨u + 1, rfl, by omega, by omega, hX27, rfl, rfl⟩ (by repeat (first | exact Sub.nil | refine Sub.cons rfl ?_))
  · obtain rfl : u = 6 := by omega
    refine T.seq ?_
    refine T.seq ?_
    refine T.region ?_
    refine SL.y (op_move rfl) rfl rfl ?_
    first | refine SL.y (op_leqT rfl rfl (by omega)) rfl rfl ?_ | refine SL.y (op_leqF rfl rfl (by omega)) rfl rfl ?_ | refine SL.y (op_leq rfl rfl) rfl rfl ?_
    refine SL.nil ?_
    refine T.condF rfl ?_
    refine T.exit (T.exitCode (T.exitCut (T.exitBlk ?_)))
    refine T.seq ?_
    refine T.region ?_
    refine SL.y (op_assign rfl) rfl rfl ?_
    refine SL.nil ?_
    -- ret
    refine T.ret1 rfl (ResIs.tmp rfl) ?_
    rfl
end Go.Proofs.YtkmnlogacfkjmaaDoor
