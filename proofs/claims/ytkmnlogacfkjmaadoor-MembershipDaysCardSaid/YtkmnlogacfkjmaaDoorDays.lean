/- MembershipDays answers true. -/
import Derived.Test.YtkmnlogacfkjmaaDoorAw
import Derived.Test.YtkmnlogacfkjmaaDoorLaw2
namespace Go.Proofs.YtkmnlogacfkjmaaDoor
section
set_option maxRecDepth 100000
theorem en12 : Enters Tryd.prog 12 := enters_mk Tryd.func12 (by kernel_rfl) rfl
theorem en13 : Enters Tryd.prog 13 := enters_mk Tryd.func13 (by kernel_rfl) rfl
theorem en34 : Enters Tryd.prog 34 := enters_mk Tryd.func34 (by kernel_rfl) rfl
theorem en36 : Enters Tryd.prog 36 := enters_mk Tryd.func36 (by kernel_rfl) rfl
theorem en37 : Enters Tryd.prog 37 := enters_mk Tryd.func37 (by kernel_rfl) rfl
theorem en38 : Enters Tryd.prog 38 := enters_mk Tryd.func38 (by kernel_rfl) rfl
end
open Go.RowKit
theorem days_spec {X : PMap} (hT : Tab X) {s : Value} {l : List Rw} (h : RawR X s l) (hl : rawOk l) (a b d : Int) : Spec Tryd.prog 8 [s, .agg #[.int .i64 a, .int .i64 b], .int .i64 d] X fun u _ => u = .bool true := by
  obtain ⟨A, cp, rfl⟩ := h.form
  refine Spec.enter Tryd.func8 rfl Tryd.ntmps8 rfl ?_
  intro w0 hw0
  refine T.seq ?_
  refine T.region ?_
  refine SL.x (op_box rfl) rfl rfl ?_
  rintro _ _ _ ⟨B4, rfl, rfl, rfl⟩
  refine SL.y (op_assign rfl) rfl rfl ?_
  refine SL.nil ?_
  refine T.seq ?_
  refine T.seq ?_
  refine T.region ?_
  -- op
  refine SL.x (op_callF en12 (vs := []) rfl (awake12_spec hT)) rfl rfl ?_
  rintro _ _ X1 ⟨rfl, hX1, rfl⟩
  refine SL.y (op_not rfl) rfl rfl ?_
  refine SL.nil ?_
  refine T.condF rfl ?_
  refine T.skip ?_
  refine T.seq ?_
  refine T.region ?_
  refine SL.y (op_move rfl) rfl rfl ?_
  -- op
  refine SL.x (op_callF en13 (vs := [_]) rfl (make12_spec (h.mono hX1) hl)) rfl rfl ?_
  rintro _ _ X2 ⟨rfl, hX2, p, t, rfl, hp, ht⟩
  have hw := mkE_wf l
  have hln := mkE_len l
  generalize mkE l = L at *
  obtain ⟨bp, sv, rfl, hb, hs⟩ := hp
  obtain ⟨At, ct, rfl⟩ := SliceR.form ht
  have hP : BkR X2 (.pointer (some ⟨bp, 0, none⟩)) L := ⟨bp, sv, rfl, hb, hs⟩
  refine SL.y (op_move rfl) rfl rfl ?_
  refine SL.y (op_extract rfl rfl) rfl rfl ?_
  refine SL.y (op_extract rfl rfl) rfl rfl ?_
  refine SL.y (op_assign rfl) rfl rfl ?_
  refine SL.y (op_assign rfl) rfl rfl ?_
  refine SL.nil ?_
  refine T.seq ?_
  refine T.seq ?_
  refine T.region ?_
  refine SL.y (op_move rfl) rfl rfl ?_
  refine SL.y (op_eqlNil Tryd.underlying24 rfl rfl) rfl rfl ?_
  refine SL.nil ?_
  refine T.condF rfl ?_
  refine T.skip ?_
  refine T.seq ?_
  refine T.region ?_
  refine SL.y (op_move rfl) rfl rfl ?_
  refine SL.y (op_indexA (i := 0) Tryd.underlying68 ty3 rfl rfl (by omega)) rfl rfl ?_
  first | refine SL.y (op_load ty3 rfl (by repeat (first | exact AtO.here | apply AtO.there)) rfl) rfl rfl ?_ | refine SL.y (op_loadX ty3 rfl (by assumption) rfl) rfl rfl ?_
  refine SL.y (op_indexA (i := 1) Tryd.underlying68 ty3 rfl rfl (by omega)) rfl rfl ?_
  first | refine SL.y (op_load ty3 rfl (by repeat (first | exact AtO.here | apply AtO.there)) rfl) rfl rfl ?_ | refine SL.y (op_loadX ty3 rfl (by assumption) rfl) rfl rfl ?_
  -- op
  refine SL.x (op_callF en20 (vs := [_, _, _]) rfl (until_spec (.inl hP) hw (by omega) (u := a) (r := b))) rfl rfl ?_
  rintro _ _ X3 ⟨rfl, hX3, rfl⟩
  refine SL.y (op_move rfl) rfl rfl ?_
  refine SL.y (op_extract rfl rfl) rfl rfl ?_
  refine SL.y (op_extract rfl rfl) rfl rfl ?_
  refine SL.y (op_assign rfl) rfl rfl ?_
  refine SL.y (op_assign rfl) rfl rfl ?_
  refine SL.nil ?_
  refine T.seq ?_
  refine T.region ?_
  refine SL.y (op_move rfl) rfl rfl ?_
  refine SL.y (op_indexA (i := 0) Tryd.underlying68 ty3 rfl rfl (by omega)) rfl rfl ?_
  first | refine SL.y (op_load ty3 rfl (by repeat (first | exact AtO.here | apply AtO.there)) rfl) rfl rfl ?_ | refine SL.y (op_loadX ty3 rfl (by assumption) rfl) rfl rfl ?_
  refine SL.y (op_indexA (i := 1) Tryd.underlying68 ty3 rfl rfl (by omega)) rfl rfl ?_
  first | refine SL.y (op_load ty3 rfl (by repeat (first | exact AtO.here | apply AtO.there)) rfl) rfl rfl ?_ | refine SL.y (op_loadX ty3 rfl (by assumption) rfl) rfl rfl ?_
  -- op
  refine SL.x (op_callF en34 (vs := [_, _, _]) rfl (runtil_spec (ht.mono hX3) (by omega) (u := a) (r := b))) rfl rfl ?_
  rintro _ _ X4 ⟨rfl, hX4, rfl⟩
  have hU : ∀ t, untilE L a b = some t → 0 ≤ t := fun t h => by
    have := hw.2 _ ((until_mem hw).1 h)
    simp only [okE] at this; omega
  have hge : decide (0 ≤ (untilE L a b).getD (-1)) = (untilE L a b).isSome := by
    cases hu : untilE L a b with
    | none => rfl
    | some t => have := hU t hu; simpa using this
  have hmx : (if (0 : Int) > (untilE L a b).getD (-1) then 0 else (untilE L a b).getD (-1)) = (untilE L a b).getD 0 := by
    cases hu : untilE L a b with
    | none => rfl
    | some t => have := hU t hu; simp; omega
  refine SL.y (op_assign rfl) rfl rfl ?_
  refine SL.nil ?_
  refine T.seq ?_
  refine T.draw (by kernel_rfl) 38 [.t 0, .t 1, .t 2, .t 3, .t 4, .t 5, .t 6, .t 7, .t 8, .t 9, .t 10, .t 11, .t 12, .t 13, .t 14, .t 17, .t 18, .t 19, .t 20, .r 15, .r 16, .r 21, .r 22, .t 23, .t 24, .t 25, .t 26, .t 27, .t 28, .t 30, .t 31, .t 32, .t 33, .r 29, .r 34, .r 35, .t 36, .t 37] (by kernel_rfl) ?_
  refine SD.take rfl panicBody (op_move rfl) rfl rfl ?_
  refine SD.take rfl panicBody (op_move rfl) rfl rfl ?_
  -- to 38: op
  refine SD.take rfl panicBody (op_geq rfl rfl) rfl rfl ?_
  rw [hge]
  -- to 39: op
  refine SD.take rfl panicBody (op_eqlBS Tryd.underlying4 rfl rfl) rfl rfl ?_
  refine SD.take rfl panicBody (op_move rfl) rfl rfl ?_
  first | refine SD.skip rfl panicBody rfl rfl ?_ | refine SD.take rfl panicBody (op_move rfl) rfl rfl ?_
  first | refine SD.skip rfl panicBody rfl rfl ?_ | refine SD.take rfl panicBody (op_move rfl) rfl rfl ?_
  -- to 43: op
  refine SD.take rfl panicBody (op_max rfl rfl hmx) rfl rfl ?_
  -- to 44: op
  refine SD.take rfl panicBody (op_eqlT rfl rfl rfl) rfl rfl ?_
  have hX34 := hX3.trans' hX4
  first | refine SD.take rfl panicBody (op_pickT rfl rfl) rfl rfl ?_ | refine SD.take rfl panicBody (op_pickF rfl rfl) rfl rfl ?_ | refine SD.take rfl panicBody (op_pickB rfl rfl rfl) rfl rfl ?_
  refine SD.take rfl panicBody (op_move rfl) rfl rfl ?_
  first | refine SD.skip rfl panicBody rfl rfl ?_ | refine SD.take rfl panicBody (op_move rfl) rfl rfl ?_
  first | refine SD.skip rfl panicBody rfl rfl ?_ | refine SD.take rfl panicBody (op_indexA (i := 0) Tryd.underlying68 ty3 rfl rfl (by omega)) rfl rfl ?_
  first | refine SD.skip rfl panicBody rfl rfl ?_ | refine SD.take rfl panicBody (op_load ty3 rfl (by repeat (first | exact AtO.here | apply AtO.there)) rfl) rfl rfl ?_ | refine SD.take rfl panicBody (op_loadX ty3 rfl (by assumption) rfl) rfl rfl ?_
  first | refine SD.skip rfl panicBody rfl rfl ?_ | refine SD.take rfl panicBody (op_move rfl) rfl rfl ?_
  first | refine SD.skip rfl panicBody rfl rfl ?_ | refine SD.take rfl panicBody (op_move rfl) rfl rfl ?_
  first | refine SD.skip rfl panicBody rfl rfl ?_ | refine SD.take rfl panicBody (op_indexA (i := 0) Tryd.underlying68 ty3 rfl rfl (by omega)) rfl rfl ?_
  first | refine SD.skip rfl panicBody rfl rfl ?_ | refine SD.take rfl panicBody (op_load ty3 rfl (by repeat (first | exact AtO.here | apply AtO.there)) rfl) rfl rfl ?_ | refine SD.take rfl panicBody (op_loadX ty3 rfl (by assumption) rfl) rfl rfl ?_
  first | refine SD.skip rfl panicBody rfl rfl ?_ | refine SD.take rfl panicBody (op_move rfl) rfl rfl ?_
  -- op
  refine SD.run rfl (op_callF en18 (vs := [_, _, _]) rfl (on_spec ((BkN.mono (.inl hP) hX34)) hw (by omega) (u := a) (d := d))) rfl rfl ?_
  rintro s1 _ X5 ⟨rfl, hX5, hs1⟩
  refine SD.run rfl (op_callF en36 (vs := [_]) rfl (list_spec (((((hT.mono hX1).mono hX2).mono hX34).mono hX5)) hs1)) rfl rfl ?_
  rintro s2 _ X6 ⟨rfl, hX6, hs2⟩
  -- op
  refine SD.run rfl (op_callF en37 (vs := [_, _, _]) rfl (ron_spec (((ht.mono hX34).mono hX5).mono hX6) hw (by omega) (u := a) (d := d))) rfl rfl ?_
  rintro s3 _ X7 ⟨rfl, hX7, hs3⟩
  rw [on_list hw] at hs2
  refine SD.run rfl (op_callF en35 (vs := [_, _]) rfl (eqInts_spec (hs2.mono hX7) hs3 (by have := onE_len L a d; omega))) rfl rfl ?_
  rintro _ _ X8 ⟨rfl, hX8, rfl⟩
  rw [decide_eq_true rfl]
  have hX48 := (((hX34.trans' hX5).trans' hX6).trans' hX7).trans' hX8
  first | refine SD.take rfl panicBody (op_pickT rfl rfl) rfl rfl ?_ | refine SD.take rfl panicBody (op_pickF rfl rfl) rfl rfl ?_ | refine SD.take rfl panicBody (op_pickB rfl rfl rfl) rfl rfl ?_
  refine SD.take rfl panicBody (op_move rfl) rfl rfl ?_
  first | refine SD.skip rfl panicBody rfl rfl ?_ | refine SD.take rfl panicBody (op_move rfl) rfl rfl ?_
  first | refine SD.skip rfl panicBody rfl rfl ?_ | refine SD.take rfl panicBody (op_indexA (i := 1) Tryd.underlying68 ty3 rfl rfl (by omega)) rfl rfl ?_
  first | refine SD.skip rfl panicBody rfl rfl ?_ | refine SD.take rfl panicBody (op_load ty3 rfl (by repeat (first | exact AtO.here | apply AtO.there)) rfl) rfl rfl ?_ | refine SD.take rfl panicBody (op_loadX ty3 rfl (by assumption) rfl) rfl rfl ?_
  first | refine SD.skip rfl panicBody rfl rfl ?_ | refine SD.take rfl panicBody (op_move rfl) rfl rfl ?_
  first | refine SD.skip rfl panicBody rfl rfl ?_ | refine SD.take rfl panicBody (op_move rfl) rfl rfl ?_
  first | refine SD.skip rfl panicBody rfl rfl ?_ | refine SD.take rfl panicBody (op_indexA (i := 1) Tryd.underlying68 ty3 rfl rfl (by omega)) rfl rfl ?_
  first | refine SD.skip rfl panicBody rfl rfl ?_ | refine SD.take rfl panicBody (op_load ty3 rfl (by repeat (first | exact AtO.here | apply AtO.there)) rfl) rfl rfl ?_ | refine SD.take rfl panicBody (op_loadX ty3 rfl (by assumption) rfl) rfl rfl ?_
  first | refine SD.skip rfl panicBody rfl rfl ?_ | refine SD.take rfl panicBody (op_move rfl) rfl rfl ?_
  -- op
  refine SD.run rfl (op_callF en23 (vs := [_, _, _]) rfl ((users_spec (BkN.mono (.inl hP) hX48) hw (by omega) (r := b) (d := d)).pubG)) rfl rfl ?_
  rintro s4 _ X9 ⟨rfl, hX9, hs4⟩
  -- op
  refine SD.run rfl (op_callF en38 (vs := [_, _, _]) rfl (rusers_spec ((ht.mono hX48).mono hX9) hw (by omega) (u := b) (d := d))) rfl rfl ?_
  rintro s5 _ X10 ⟨rfl, hX10, hs5⟩
  refine SD.run rfl (op_callF en35 (vs := [_, _]) rfl (eqInts_spec (hs4.mono hX10) hs5 (by have := usersE_len L b d; omega))) rfl rfl ?_
  rintro _ _ X11 ⟨rfl, hX11, rfl⟩
  rw [decide_eq_true rfl]
  first | refine SD.take rfl panicBody (op_pickT rfl rfl) rfl rfl ?_ | refine SD.take rfl panicBody (op_pickF rfl rfl) rfl rfl ?_ | refine SD.take rfl panicBody (op_pickB rfl rfl rfl) rfl rfl ?_
  refine SD.take rfl panicBody (op_assign rfl) rfl rfl ?_
  refine SD.nil ?_
  show SL _ _ _ _ _ _ _ [] _ _ _
  refine SL.nil ?_
  -- ret
  refine T.ret1 rfl (ResIs.tmp rfl) ?_
  rfl
end Go.Proofs.YtkmnlogacfkjmaaDoor
