/- MembershipOrder and MembershipDays answer true. -/
import Derived.Test.YtkmnlogacfkjmaaDoorAw
namespace Go.Proofs.YtkmnlogacfkjmaaDoor
section
set_option maxRecDepth 100000
theorem en12 : Enters Tryd.prog 12 := enters_mk Tryd.func12 (by kernel_rfl) rfl
theorem en13 : Enters Tryd.prog 13 := enters_mk Tryd.func13 (by kernel_rfl) rfl
theorem en16 : Enters Tryd.prog 16 := enters_mk Tryd.func16 (by kernel_rfl) rfl
theorem en17 : Enters Tryd.prog 17 := enters_mk Tryd.func17 (by kernel_rfl) rfl
end
open Go.RowKit
theorem err_ok {e : En} (h : okE e) : asgErr e.1 e.2.1 e.2.2 = 0 := by
  obtain ⟨h1, h2, h3, h4, h5, h6⟩ := h
  simp only [asgErr]
  rw [if_neg (by simp [keyOk]; omega), if_neg (by omega)]
theorem asg_front {l : List En} {x : En} (hw : WfL (x :: l)) : asgP l x.1 x.2.1 x.2.2 = x :: l := by
  have hb := List.pairwise_cons.1 hw.1
  have hwl : WfL l := ⟨hb.2, fun e he => hw.2 e (by simp [he])⟩
  rw [asg_eq hwl, rev_no, show insE (x.1, x.2.1, x.2.2) l = insE x ([] ++ l) from rfl, insE_split (a := []) (fun _ h => by cases h)]
  · rfl
  · intro y hy
    have := hb.1 y hy
    simpa only [ltB, decide_eq_true_eq, befE] using this
  · rw [hasE, List.any_eq_false]
    intro y hy hk
    have := hb.1 y hy
    simp only [keyB, decide_eq_true_eq, befE] at this hk
    omega
theorem wf_drop {l : List En} (hw : WfL l) (k : Nat) : WfL (l.drop k) := ⟨hw.1.sublist (List.drop_sublist ..), fun e he => hw.2 e (List.mem_of_mem_drop he)⟩
theorem order_spec {X : PMap} (hT : Tab X) {s s' : Value} {l m : List Rw} (h : RawR X s l) (h' : RawR X s' m) (hl : rawOk l) (hm : rawOk m) : Spec Tryd.prog 3 [s, s'] X fun u _ => u = .bool true := by
  obtain ⟨A, cp, rfl⟩ := h.form
  obtain ⟨A', cp', rfl⟩ := h'.form
  refine Spec.enter Tryd.func3 rfl Tryd.ntmps3 rfl ?_
  intro w0 hw0
  refine T.seq ?_
  refine T.region ?_
  refine SL.y (op_assign rfl) rfl rfl ?_
  refine SL.nil ?_
  refine T.seq ?_
  refine T.seq ?_
  refine T.region ?_
  -- op
  refine SL.x (op_callF en12 (vs := []) rfl (awake12_spec hT)) rfl rfl ?_
  rintro _ _ X1 ⟨rfl, hX1, rfl⟩
  refine SL.y (op_not rfl) rfl rfl ?_
  refine SL.nil ?_
  refine T.condF rfl ?_
  refine T.skip ?_
  refine T.seq ?_
  refine T.region ?_
  refine SL.y (op_move rfl) rfl rfl ?_
  -- op
  refine SL.x (op_callF en13 (vs := [_]) rfl (make12_spec (h.mono hX1) hl)) rfl rfl ?_
  rintro _ _ X2 ⟨rfl, hX2, p, t, rfl, hp, ht⟩
  refine SL.y (op_move rfl) rfl rfl ?_
  refine SL.y (op_extract rfl rfl) rfl rfl ?_
  refine SL.y (op_extract rfl rfl) rfl rfl ?_
  refine SL.y (op_assign rfl) rfl rfl ?_
  refine SL.y (op_assign rfl) rfl rfl ?_
  refine SL.nil ?_
  refine T.seq ?_
  refine T.region ?_
  refine SL.y (op_move rfl) rfl rfl ?_
  -- op
  refine SL.x (op_callF en13 (vs := [_]) rfl (make12_spec ((h'.mono hX1).mono hX2) hm)) rfl rfl ?_
  rintro _ _ X3 ⟨rfl, hX3, p', t', rfl, hp', ht'⟩
  have hw := mkE_wf l
  have hw' := mkE_wf m
  have hln := mkE_len l
  have hln' := mkE_len m
  generalize mkE l = L at *
  generalize mkE m = M at *
  obtain ⟨b, sv, rfl, hb, hs⟩ := hp
  obtain ⟨b', sv', rfl, hb', hs'⟩ := hp'
  obtain ⟨At, ct, rfl⟩ := SliceR.form ht
  obtain ⟨At', ct', rfl⟩ := SliceR.form ht'
  have hP : BkR X2 (.pointer (some ⟨b, 0, none⟩)) L := ⟨b, sv, rfl, hb, hs⟩
  have hP' : BkR X3 (.pointer (some ⟨b', 0, none⟩)) M := ⟨b', sv', rfl, hb', hs'⟩
  refine SL.y (op_move rfl) rfl rfl ?_
  refine SL.y (op_extract rfl rfl) rfl rfl ?_
  refine SL.y (op_extract rfl rfl) rfl rfl ?_
  refine SL.y (op_assign rfl) rfl rfl ?_
  refine SL.y (op_assign rfl) rfl rfl ?_
  refine SL.nil ?_
  refine T.seq ?_
  refine T.seq ?_
  refine T.region ?_
  refine SL.y (op_move rfl) rfl rfl ?_
  refine SL.y (op_eqlNil Tryd.underlying24 rfl rfl) rfl rfl ?_
  refine SL.y (op_move rfl) rfl rfl ?_
  first | refine SL.skip rfl rfl ?_ | refine SL.y (op_move rfl) rfl rfl ?_
  first | refine SL.skip rfl rfl ?_ | refine SL.y (op_eqlNil Tryd.underlying24 rfl rfl) rfl rfl ?_
  first | refine SL.y (op_pickT rfl rfl) rfl rfl ?_ | refine SL.y (op_pickF rfl rfl) rfl rfl ?_ | refine SL.y (op_pickB rfl rfl rfl) rfl rfl ?_
  refine SL.nil ?_
  refine T.condF rfl ?_
  refine T.skip ?_
  refine T.seq ?_
  refine T.region ?_
  -- op
  refine SL.x (op_callF en14 (vs := []) rfl (bnew_spec)) rfl rfl ?_
  rintro d0 _ X4 ⟨rfl, hX4, hd0⟩
  have ht4 := (ht.mono hX3).mono hX4
  refine SL.y (op_assign rfl) rfl rfl ?_
  refine SL.nil ?_
  refine T.seq ?_
  refine T.seq ?_
  refine T.region ?_
  refine SL.y (op_move rfl) rfl rfl ?_
  refine SL.y (op_lenS Tryd.underlying25 rfl) rfl rfl ?_
  -- to 35: op
  refine SL.y (op_sub rfl rfl (by omega) (by omega)) rfl rfl ?_
  refine SL.y (op_assign rfl) rfl rfl ?_
  refine SL.nil ?_
  refine T.block ?_
  -- loop live [4, 5, 6, 7, 8, 9, 10]
  refine T.loopW (fun m env own X' => ∃ (k : Nat) (d : Value), k = m ∧ k ≤ L.length ∧ X4.le X' ∧ BkR X' d (L.drop k) ∧ env = [(5, .pointer (some ⟨b, 0, none⟩)), (6, .slice At L.length ct), (7, .pointer (some ⟨b', 0, none⟩)), (8, .slice At' M.length ct'), (9, d), (10, .int .i64 ((k : Int) - 1))] ∧ own = []) L.length ⟨L.length, d0, rfl, Nat.le_refl _, PMap.le_refl _, by rw [List.drop_length]; exact hd0, rfl, rfl⟩ (by repeat (first | exact Sub.nil | refine Sub.cons rfl ?_)) ?_
  rintro m _ _ X5 ⟨k, d, rfl, hk, hX5, hd, rfl, rfl⟩
  rcases k with _ | q
  · have hX35 := hX4.trans' hX5
    refine T.seq ?_
    refine T.seq ?_
    refine T.region ?_
    refine SL.y (op_move rfl) rfl rfl ?_
    first | refine SL.y (op_geqT rfl rfl (by omega)) rfl rfl ?_ | refine SL.y (op_geqF rfl rfl (by omega)) rfl rfl ?_ | refine SL.y (op_geq rfl rfl) rfl rfl ?_
    refine SL.nil ?_
    refine T.condF rfl ?_
    refine T.exit (T.exitCode (T.exitCut (T.exitBlk ?_)))
    refine T.seq ?_
    refine T.region ?_
    refine SL.y (op_move rfl) rfl rfl ?_
    refine SL.y (op_move rfl) rfl rfl ?_
    -- op
    refine SL.x (op_callF en16 (vs := [_, _]) rfl (eqEnR_spec (ht4.mono hX5) ((ht'.mono hX4).mono hX5) (by omega))) rfl rfl ?_
    rintro _ _ X6 ⟨rfl, hX6, rfl⟩
    refine SL.y (op_assign rfl) rfl rfl ?_
    refine SL.nil ?_
    refine T.seq ?_
    refine T.region ?_
    refine SL.y (op_move rfl) rfl rfl ?_
    refine SL.y (op_move rfl) rfl rfl ?_
    -- op
    refine SL.x (op_callF en17 (vs := [_, _]) rfl (bequal_spec (((hP.mono hX3).mono hX35).mono hX6) ((hP'.mono hX35).mono hX6) (by omega))) rfl rfl ?_
    rintro _ _ X7 ⟨rfl, hX7, rfl⟩
    refine SL.y (op_move rfl) rfl rfl ?_
    -- to 70: op
    refine SL.y (op_eqlBS Tryd.underlying4 rfl rfl) rfl rfl ?_
    refine SL.y (op_move rfl) rfl rfl ?_
    first | refine SL.skip rfl rfl ?_ | refine SL.y (op_move rfl) rfl rfl ?_
    first | refine SL.skip rfl rfl ?_ | refine SL.y (op_move rfl) rfl rfl ?_
    -- op
    refine SL.x (op_callF en17 (vs := [_, _]) rfl (bequal_spec (((hP'.mono hX35).mono hX6).mono hX7) ((((hP.mono hX3).mono hX35).mono hX6).mono hX7) (by omega))) rfl rfl ?_
    rintro _ _ X8 ⟨rfl, hX8, rfl⟩
    rw [show decide (M = L) = decide (L = M) from decide_eq_decide.2 ⟨Eq.symm, Eq.symm⟩]
    first | refine SL.skip rfl rfl ?_ | refine SL.y (op_move rfl) rfl rfl ?_
    -- to 76: op
    refine SL.y (op_eqlBS Tryd.underlying4 rfl rfl) rfl rfl ?_
    first | refine SL.y (op_pickT rfl rfl) rfl rfl ?_ | refine SL.y (op_pickF rfl rfl) rfl rfl ?_ | refine SL.y (op_pickB rfl rfl rfl) rfl rfl ?_
    refine SL.y (op_move rfl) rfl rfl ?_
    first | refine SL.skip rfl rfl ?_ | refine SL.y (op_move rfl) rfl rfl ?_
    first | refine SL.skip rfl rfl ?_ | refine SL.y (op_move rfl) rfl rfl ?_
    -- op
    refine SL.x (op_callF en17 (vs := [_, _]) rfl (bequal_spec (((hd.mono hX6).mono hX7).mono hX8) (((((hP.mono hX3).mono hX35).mono hX6).mono hX7).mono hX8) (by simp; omega))) rfl rfl ?_
    rintro _ _ X9 ⟨rfl, hX9, rfl⟩
    first | refine SL.y (op_pickT rfl rfl) rfl rfl ?_ | refine SL.y (op_pickF rfl rfl) rfl rfl ?_ | refine SL.y (op_pickB rfl rfl rfl) rfl rfl ?_
    refine SL.y (op_assign rfl) rfl rfl ?_
    refine SL.nil ?_
    -- ret
    refine T.ret1 rfl (ResIs.tmp rfl) ?_
    simp
  · obtain ⟨e, he⟩ : ∃ e, L[q]? = some e := ⟨_, List.getElem?_eq_getElem (by omega)⟩
    obtain ⟨g1, g2, g3⟩ := enC_at he
    obtain ⟨b2, rfl, hB⟩ := ht4.blk (by omega)
    have hB1 := hB.mono hX5
    have hdq : L.drop q = e :: L.drop (q + 1) := by rw [List.drop_eq_getElem_cons (by omega), (List.getElem?_eq_some_iff.1 he).2]
    have hwq := wf_drop hw q
    have hwq1 := wf_drop hw (q + 1)
    rw [hdq] at hwq
    rw [show (((q + 1 : Nat) : Int) - 1) = (q : Int) by omega]
    refine T.seq ?_
    refine T.seq ?_
    refine T.region ?_
    refine SL.y (op_move rfl) rfl rfl ?_
    first | refine SL.y (op_geqT rfl rfl (by omega)) rfl rfl ?_ | refine SL.y (op_geqF rfl rfl (by omega)) rfl rfl ?_ | refine SL.y (op_geq rfl rfl) rfl rfl ?_
    refine SL.nil ?_
    refine T.condT rfl ?_
    refine T.skip ?_
    refine T.seq ?_
    refine T.block ?_
    refine T.seq ?_
    refine T.draw (by kernel_rfl) 22 [.t 0, .t 1, .t 2, .t 3, .t 4, .t 5, .t 6, .t 7, .t 8, .t 9, .t 10, .t 11, .t 12, .t 13, .t 14, .t 15, .r 16, .t 17, .t 18, .t 19, .t 20, .t 21] (by kernel_rfl) ?_
    refine SD.take rfl panicBody (op_move rfl) rfl rfl ?_
    refine SD.take rfl panicBody (op_move rfl) rfl rfl ?_
    refine SD.take rfl panicBody (op_move rfl) rfl rfl ?_
    first | refine SD.take rfl panicBody (op_indexN Tryd.underlying25 ty33 rfl rfl (by omega)) rfl rfl ?_ | refine SD.take rfl panicBody (op_index Tryd.underlying25 ty33 rfl rfl (by omega) (by omega)) rfl rfl ?_
    refine SD.take rfl panicBody (op_fieldAddr fa33_0 rfl) rfl rfl ?_
    -- to 46: op
    refine SD.take rfl panicBody (op_loadX ty3 rfl hB1 (by rw [show 0 + q * 3 + 0 = q * 3 by omega]; exact creadO g1)) rfl rfl ?_
    refine SD.take rfl panicBody (op_move rfl) rfl rfl ?_
    refine SD.take rfl panicBody (op_move rfl) rfl rfl ?_
    first | refine SD.take rfl panicBody (op_indexN Tryd.underlying25 ty33 rfl rfl (by omega)) rfl rfl ?_ | refine SD.take rfl panicBody (op_index Tryd.underlying25 ty33 rfl rfl (by omega) (by omega)) rfl rfl ?_
    refine SD.take rfl panicBody (op_fieldAddr fa33_1 rfl) rfl rfl ?_
    -- to 51: op
    refine SD.take rfl panicBody (op_loadX ty3 rfl hB1 (by rw [show 0 + q * 3 + 1 = q * 3 + 1 by omega]; exact creadO g2)) rfl rfl ?_
    refine SD.take rfl panicBody (op_move rfl) rfl rfl ?_
    refine SD.take rfl panicBody (op_move rfl) rfl rfl ?_
    first | refine SD.take rfl panicBody (op_indexN Tryd.underlying25 ty33 rfl rfl (by omega)) rfl rfl ?_ | refine SD.take rfl panicBody (op_index Tryd.underlying25 ty33 rfl rfl (by omega) (by omega)) rfl rfl ?_
    refine SD.take rfl panicBody (op_fieldAddr fa33_2 rfl) rfl rfl ?_
    -- to 56: op
    refine SD.take rfl panicBody (op_loadX ty3 rfl hB1 (by rw [show 0 + q * 3 + 2 = q * 3 + 2 by omega]; exact creadO g3)) rfl rfl ?_
    refine SD.run rfl (op_callF en15 (vs := [_, _, _, _]) rfl (assign_spec hd hwq1 (by simp; omega) (u := e.1) (r := e.2.1) (t := e.2.2))) rfl rfl ?_
    rintro w3 _ X6 ⟨rfl, hX6, hw3⟩
    rw [if_pos (err_ok (hw.2 e (List.mem_of_getElem? he))), asg_front hwq] at hw3
    obtain ⟨p3, rfl, hp3⟩ := hw3
    refine SD.take rfl panicBody (op_move rfl) rfl rfl ?_
    refine SD.take rfl panicBody (op_extract rfl rfl) rfl rfl ?_
    refine SD.take rfl panicBody (op_extract rfl rfl) rfl rfl ?_
    refine SD.take rfl panicBody (op_assign rfl) rfl rfl ?_
    refine SD.take rfl panicBody (op_assign rfl) rfl rfl ?_
    refine SD.nil ?_
    show SL _ _ _ _ _ _ _ [] _ _ _
    refine SL.nil ?_
    refine T.seq ?_
    refine T.seq ?_
    refine T.region ?_
    refine SL.y (op_move rfl) rfl rfl ?_
    first | refine SL.y (op_neqT rfl rfl (by omega)) rfl rfl ?_ | refine SL.y (op_neqF rfl rfl (by omega)) rfl rfl ?_ | refine SL.y (op_neq rfl rfl) rfl rfl ?_
    refine SL.nil ?_
    refine T.condF rfl ?_
    refine T.skip ?_
    refine T.region ?_
    refine SL.y (op_move rfl) rfl rfl ?_
    refine SL.y (op_assign rfl) rfl rfl ?_
    refine SL.nil ?_
    refine T.blk ?_
    refine T.region ?_
    refine SL.y (op_move rfl) rfl rfl ?_
    -- to 39: op
    refine SL.y (op_sub rfl rfl (by omega) (by omega)) rfl rfl ?_
    refine SL.y (op_assign rfl) rfl rfl ?_
    refine SL.nil ?_
    -- cut
    exact T.backW q (by omega) ⟨q, p3, rfl, by omega, hX5.trans' hX6, (by rw [hdq]; exact hp3), rfl, rfl⟩ (by repeat (first | exact Sub.nil | refine Sub.cons rfl ?_))
end Go.Proofs.YtkmnlogacfkjmaaDoor
