/- SyntaxMeasures. -/
import Derived.Test.YtaooojjhlngcmaaDoorConv
import Derived.Test.YtaooojjhlngcmaaDoorAwk
import Derived.Test.YtaooojjhlngcmaaDoorRnm
namespace Go.Proofs.YtaooojjhlngcmaaDoor
section
set_option maxRecDepth 100000
theorem en11 : Enters Tryd.prog 11 := enters_mk Tryd.func11 (by kernel_rfl) rfl
theorem en12 : Enters Tryd.prog 12 := enters_mk Tryd.func12 (by kernel_rfl) rfl
theorem en21 : Enters Tryd.prog 21 := enters_mk Tryd.func21 (by kernel_rfl) rfl
end
open Go.RowKit
theorem sMeasures_spec {X : PMap} {v : Value} {l : List Nd} (h : RowR ndC X v l) (hok : ∀ x ∈ l, ndOk x) : Spec Tryd.prog 5 [v] X fun u _ => u = .bool true := by
  refine Spec.enter Tryd.func5 rfl Tryd.ntmps5 rfl ?_
  intro w0 hw0
  refine T.seq ?_
  refine T.region ?_
  refine SL.y (op_assign rfl) rfl rfl ?_
  refine SL.nil ?_
  refine T.seq ?_
  refine T.seq ?_
  refine T.region ?_
  -- op
  refine SL.x (op_callF en11 (vs := []) rfl (awake16_spec)) rfl rfl ?_
  rintro _ _ X0 ⟨rfl, hX0, rfl⟩
  refine SL.y (op_not rfl) rfl rfl ?_
  refine SL.nil ?_
  refine T.condF rfl ?_
  refine T.skip ?_
  refine T.seq ?_
  refine T.region ?_
  refine SL.y (op_move rfl) rfl rfl ?_
  -- op
  refine SL.x (op_callF en12 (vs := [_]) rfl (built_spec (h.mono hX0) hok)) rfl rfl ?_
  rintro _ _ X1 ⟨rfl, hX1, r, rfl, hr⟩
  obtain ⟨o, n, A, B, l1, c1, l2, c2, rfl⟩ := hr.form
  refine SL.x (op_alloc z27) rfl rfl ?_
  rintro _ _ _ ⟨B3, rfl, rfl, rfl⟩
  refine SL.x (op_store ty27 rfl rfl (by repeat (first | exact AtO.here | apply AtO.there)) rfl rfl rfl) rfl rfl ?_
  rintro _ _ _ ⟨rfl, rfl⟩
  refine SL.nil ?_
  refine T.seq ?_
  refine T.region ?_
  first | refine SL.y (op_load ty27 rfl (by repeat (first | exact AtO.here | apply AtO.there)) rfl) rfl rfl ?_ | refine SL.y (op_loadX ty27 rfl (by assumption) rfl) rfl rfl ?_
  -- op
  have hc := expr_spec 300000 (Nat.le_of_lt (built_wt l)) (by omega) (built_ops hok) hr
  try simp only at hc
  refine SL.x (op_callF en14 (vs := [_]) rfl (hc)) rfl rfl ?_
  rintro _ _ X2 ⟨rfl, hX2, r2, rfl, hr2⟩
  obtain ⟨o2, n2, A2, B2, l3, c3, l4, c4, rfl⟩ := hr2.form
  have hw : wtE (builtE l) < 300000 := built_wt l
  generalize builtE l = e at *
  refine SL.x (op_alloc z34) rfl rfl ?_
  rintro _ _ _ ⟨B4, rfl, rfl, rfl⟩
  refine SL.x (op_store ty34 rfl rfl (by repeat (first | exact AtO.here | apply AtO.there)) rfl rfl rfl) rfl rfl ?_
  rintro _ _ _ ⟨rfl, rfl⟩
  refine SL.nil ?_
  refine T.seq ?_
  refine T.draw (by kernel_rfl) 6 [.t 0, .t 2, .r 1, .r 3, .t 4, .t 5] (by kernel_rfl) ?_
  first | refine SD.take rfl panicBody (op_load ty34 rfl (by repeat (first | exact AtO.here | apply AtO.there)) rfl) rfl rfl ?_ | refine SD.take rfl panicBody (op_loadX ty34 rfl (by assumption) rfl) rfl rfl ?_
  first | refine SD.take rfl panicBody (op_load ty27 rfl (by repeat (first | exact AtO.here | apply AtO.there)) rfl) rfl rfl ?_ | refine SD.take rfl panicBody (op_loadX ty27 rfl (by assumption) rfl) rfl rfl ?_
  -- op
  have hc1 := namesA_spec (by omega) hr2
  try simp only at hc1
  refine SD.run rfl (op_callF en20 (vs := [_]) rfl (hc1)) rfl rfl ?_
  rintro v1 _ X3 ⟨rfl, hX3, l', hp, ha, hv1⟩
  -- op
  have hc2 := rnames_spec (by omega) ((hr.mono hX2).mono hX3)
  try simp only at hc2
  refine SD.run rfl (op_callF en21 (vs := [_]) rfl (hc2)) rfl rfl ?_
  rintro v2 _ X4 ⟨rfl, hX4, hv2⟩
  rw [names_same hp ha] at hv1
  have hv1 := hv1.mono hX4
  have hml : (insAll [] (allE e)).length < 900000 := by
    have := insAll_len (allE e) []
    have := all_wt e
    simp at *; omega
  generalize insAll [] (allE e) = m at *
  obtain ⟨Am, cm, rfl⟩ := hv1.form
  obtain ⟨An, cn, rfl⟩ := hv2.form
  refine SD.take rfl panicBody (op_assign rfl) rfl rfl ?_
  refine SD.take rfl panicBody (op_assign rfl) rfl rfl ?_
  refine SD.nil ?_
  show SL _ _ _ _ _ _ _ [] _ _ _
  refine SL.nil ?_
  refine T.seq ?_
  refine T.seq ?_
  refine T.draw (by kernel_rfl) 19 [.t 0, .t 2, .r 1, .r 3, .t 4, .t 5, .t 6, .t 8, .r 7, .r 9, .t 10, .t 11, .t 12, .t 13, .t 14, .t 15, .t 16, .t 17, .t 18] (by kernel_rfl) ?_
  first | refine SD.take rfl panicBody (op_load ty34 rfl (by repeat (first | exact AtO.here | apply AtO.there)) rfl) rfl rfl ?_ | refine SD.take rfl panicBody (op_loadX ty34 rfl (by assumption) rfl) rfl rfl ?_
  first | refine SD.take rfl panicBody (op_load ty27 rfl (by repeat (first | exact AtO.here | apply AtO.there)) rfl) rfl rfl ?_ | refine SD.take rfl panicBody (op_loadX ty27 rfl (by assumption) rfl) rfl rfl ?_
  -- op
  have hc3 := depth_spec _ (Nat.le_refl _) (by omega) ((hr2.mono hX3).mono hX4)
  try simp only at hc3
  refine SD.run rfl (op_callF en22 (vs := [_]) rfl (hc3)) rfl rfl ?_
  rintro _ _ X5 ⟨rfl, hX5, rfl⟩
  -- op
  have hc4 := rdepth_spec _ (Nat.le_refl _) (by omega) ((((hr.mono hX2).mono hX3).mono hX4).mono hX5)
  try simp only at hc4
  refine SD.run rfl (op_callF en23 (vs := [_]) rfl (hc4)) rfl rfl ?_
  rintro _ _ X6 ⟨rfl, hX6, rfl⟩
  first | refine SD.take rfl panicBody (op_neqT rfl rfl (by omega)) rfl rfl ?_ | refine SD.take rfl panicBody (op_neqF rfl rfl (by omega)) rfl rfl ?_ | refine SD.take rfl panicBody (op_neq rfl rfl) rfl rfl ?_
  refine SD.take rfl panicBody (op_move rfl) rfl rfl ?_
  first | refine SD.skip rfl panicBody rfl rfl ?_ | refine SD.take rfl panicBody (op_load ty34 rfl (by repeat (first | exact AtO.here | apply AtO.there)) rfl) rfl rfl ?_ | refine SD.take rfl panicBody (op_loadX ty34 rfl (by assumption) rfl) rfl rfl ?_
  first | refine SD.skip rfl panicBody rfl rfl ?_ | refine SD.take rfl panicBody (op_load ty27 rfl (by repeat (first | exact AtO.here | apply AtO.there)) rfl) rfl rfl ?_ | refine SD.take rfl panicBody (op_loadX ty27 rfl (by assumption) rfl) rfl rfl ?_
  -- op
  have hc5 := size_spec _ (Nat.le_refl _) (by omega) ((((hr2.mono hX3).mono hX4).mono hX5).mono hX6)
  try simp only at hc5
  refine SD.run rfl (op_callF en24 (vs := [_]) rfl (hc5)) rfl rfl ?_
  rintro _ _ X7 ⟨rfl, hX7, rfl⟩
  -- op
  have hc6 := rsize_spec _ (Nat.le_refl _) (by omega) ((((((hr.mono hX2).mono hX3).mono hX4).mono hX5).mono hX6).mono hX7)
  try simp only at hc6
  refine SD.run rfl (op_callF en25 (vs := [_]) rfl (hc6)) rfl rfl ?_
  rintro _ _ X8 ⟨rfl, hX8, rfl⟩
  first | refine SD.skip rfl panicBody rfl rfl ?_ | refine SD.take rfl panicBody (op_neqT rfl rfl (by omega)) rfl rfl ?_ | refine SD.take rfl panicBody (op_neqF rfl rfl (by omega)) rfl rfl ?_ | refine SD.take rfl panicBody (op_neq rfl rfl) rfl rfl ?_
  first | refine SD.take rfl panicBody (op_pickT rfl rfl) rfl rfl ?_ | refine SD.take rfl panicBody (op_pickF rfl rfl) rfl rfl ?_ | refine SD.take rfl panicBody (op_pickB rfl rfl rfl) rfl rfl ?_
  refine SD.take rfl panicBody (op_move rfl) rfl rfl ?_
  first | refine SD.skip rfl panicBody rfl rfl ?_ | refine SD.take rfl panicBody (op_move rfl) rfl rfl ?_
  first | refine SD.skip rfl panicBody rfl rfl ?_ | refine SD.take rfl panicBody (op_lenS Tryd.underlying24 rfl) rfl rfl ?_
  first | refine SD.skip rfl panicBody rfl rfl ?_ | refine SD.take rfl panicBody (op_move rfl) rfl rfl ?_
  first | refine SD.skip rfl panicBody rfl rfl ?_ | refine SD.take rfl panicBody (op_lenS Tryd.underlying24 rfl) rfl rfl ?_
  first | refine SD.skip rfl panicBody rfl rfl ?_ | refine SD.take rfl panicBody (op_neqT rfl rfl (by omega)) rfl rfl ?_ | refine SD.take rfl panicBody (op_neqF rfl rfl (by omega)) rfl rfl ?_ | refine SD.take rfl panicBody (op_neq rfl rfl) rfl rfl ?_
  first | refine SD.take rfl panicBody (op_pickT rfl rfl) rfl rfl ?_ | refine SD.take rfl panicBody (op_pickF rfl rfl) rfl rfl ?_ | refine SD.take rfl panicBody (op_pickB rfl rfl rfl) rfl rfl ?_
  refine SD.nil ?_
  show SL _ _ _ _ _ _ _ [] _ _ _
  refine SL.nil ?_
  refine T.condF rfl ?_
  refine T.skip ?_
  refine T.seq ?_
  refine T.seq ?_
  refine T.region ?_
  refine SL.y (op_move rfl) rfl rfl ?_
  refine SL.y (op_lenS Tryd.underlying24 rfl) rfl rfl ?_
  refine SL.y (op_move (v := .int .i64 ((0 : Nat) : Int)) rfl) rfl rfl ?_
  refine SL.nil ?_
  refine T.block ?_
  -- loop live [2, 5, 6, 38, 39]
  have hX48 := ((hX5.trans' hX6).trans' hX7).trans' hX8
  refine T.drop B3 (by repeat (first | exact AtO.here | apply AtO.there)) ?_
  refine T.drop B4 (by repeat (first | exact AtO.here | apply AtO.there)) ?_
  refine T.loopW (fun m' env own X' => ∃ i : Nat, m' = m.length - i ∧ i ≤ m.length ∧ X4.le X' ∧ env = [(5, .slice Am m.length cm), (6, .slice An m.length cn), (38, .int .i64 (m.length : Int)), (39, .int .i64 (i : Int))] ∧ own = []) m.length ⟨0, by simp, by omega, hX48, rfl, rfl⟩ (by repeat (first | exact Sub.nil | refine Sub.cons rfl ?_)) ?_
  rintro m' _ _ X9 ⟨i, rfl, hi, hX9, rfl, rfl⟩
  rcases Nat.lt_or_ge i m.length with hil | hil
  · obtain ⟨x, hx⟩ : ∃ x, m[i]? = some x := ⟨_, List.getElem?_eq_getElem hil⟩
    obtain ⟨bA, pre, rfl, hB⟩ := hv1.blk (by omega)
    obtain ⟨bA2, pre2, rfl, hB2⟩ := hv2.blk (by omega)
    refine T.seq ?_
    refine T.region ?_
    first | refine SL.y (op_lssT rfl rfl (by omega)) rfl rfl ?_ | refine SL.y (op_lssF rfl rfl (by omega)) rfl rfl ?_ | refine SL.y (op_lss rfl rfl) rfl rfl ?_
    refine SL.nil ?_
    refine T.seq ?_
    refine T.condT rfl ?_
    refine T.skip ?_
    refine T.seq ?_
    refine T.block ?_
    refine T.seq ?_
    refine T.region ?_
    refine SL.y (op_move rfl) rfl rfl ?_
    refine SL.y (op_assign rfl) rfl rfl ?_
    refine SL.nil ?_
    refine T.seq ?_
    refine T.draw (by kernel_rfl) 9 [.t 0, .t 1, .t 2, .t 3, .t 4, .t 5, .t 6, .t 7, .t 8] (by kernel_rfl) ?_
    refine SD.take rfl panicBody (op_move rfl) rfl rfl ?_
    refine SD.take rfl panicBody (op_move rfl) rfl rfl ?_
    first | refine SD.take rfl panicBody (op_indexN Tryd.underlying24 ty9 rfl rfl (by omega)) rfl rfl ?_ | refine SD.take rfl panicBody (op_index Tryd.underlying24 ty9 rfl rfl (by omega) (by omega)) rfl rfl ?_
    -- to 45: op
    refine SD.take rfl panicBody (op_loadX ty9 rfl (hB.mono hX9) (str_read hx (by omega))) rfl rfl ?_
    refine SD.take rfl panicBody (op_move rfl) rfl rfl ?_
    refine SD.take rfl panicBody (op_move rfl) rfl rfl ?_
    first | refine SD.take rfl panicBody (op_indexN Tryd.underlying24 ty9 rfl rfl (by omega)) rfl rfl ?_ | refine SD.take rfl panicBody (op_index Tryd.underlying24 ty9 rfl rfl (by omega) (by omega)) rfl rfl ?_
    -- to 49: op
    refine SD.take rfl panicBody (op_loadX ty9 rfl (hB2.mono hX9) (str_read hx (by omega))) rfl rfl ?_
    refine SD.take rfl panicBody (op_neqStrD rfl rfl) rfl rfl ?_
    refine SD.nil ?_
    show SL _ _ _ _ _ _ _ [] _ _ _
    refine SL.nil ?_
    -- cond
    rw [decide_eq_true (rfl : x = x)]
    refine T.condF rfl ?_
    refine T.skip ?_
    refine T.blk ?_
    refine T.region ?_
    first | refine SL.y (op_addN (q := 1) rfl rfl (by omega)) rfl rfl ?_ | refine SL.y (op_add rfl rfl (by omega) (by omega)) rfl rfl ?_ | refine SL.y (op_addW rfl rfl) rfl rfl ?_
    refine SL.y (op_move rfl) rfl rfl ?_
    refine SL.nil ?_
    -- cut
    exact T.backW (m.length - (i + 1)) (by omega) ⟨i + 1, rfl, by omega, hX9, rfl, rfl⟩ (by repeat (first | exact Sub.nil | refine Sub.cons rfl ?_))
  · obtain rfl : i = m.length := by omega
    refine T.seq ?_
    refine T.region ?_
    first | refine SL.y (op_lssT rfl rfl (by omega)) rfl rfl ?_ | refine SL.y (op_lssF rfl rfl (by omega)) rfl rfl ?_ | refine SL.y (op_lss rfl rfl) rfl rfl ?_
    refine SL.nil ?_
    refine T.seq ?_
    refine T.condF rfl ?_
    refine T.exit (T.exitCode (T.exitCut (T.exitBlk ?_)))
    refine T.seq ?_
    refine T.region ?_
    refine SL.y (op_assign rfl) rfl rfl ?_
    refine SL.nil ?_
    -- ret
    refine T.ret1 rfl (ResIs.tmp rfl) ?_
    rfl
end Go.Proofs.YtaooojjhlngcmaaDoor
