/- Books: equality. -/
import Derived.Test.YtkmnlogacfkjmaaDoorBook5
import Derived.Test.YtkmnlogacfkjmaaDoorStruct
namespace Go.Proofs.YtkmnlogacfkjmaaDoor
section
set_option maxRecDepth 100000
theorem en58 : Enters Tryd.prog 58 := enters_mk Tryd.func58 (by kernel_rfl) rfl
theorem ty33 : Ty Tryd.prog 33 true 3 := ⟨⟨_, Tryd.underlying33, rfl⟩, by kernel_rfl⟩
theorem z33 : Zero Tryd.prog 33 [.int .i64 0, .int .i64 0, .int .i64 0] := ⟨zero_of (by kernel_rfl)⟩
end
open Go.RowKit
theorem en_eq {a b : En} : (a.1 = b.1 ∧ a.2.1 = b.2.1 ∧ a.2.2 = b.2.2) ↔ a = b := by
  obtain ⟨a1, a2, a3⟩ := a; obtain ⟨b1, b2, b3⟩ := b
  simp
theorem eqEn_spec {X : PMap} {v v' : Value} {l l' : List En} (h : SliceR X v l.length (enC l)) (h' : SliceR X v' l'.length (enC l')) (hs : l.length < 2147483648) : Spec Tryd.prog 50 [v, v'] X fun u _ => u = .bool (decide (l = l')) := by
  obtain ⟨A, cp, rfl⟩ := h.form
  obtain ⟨A', cp', rfl⟩ := h'.form
  by_cases hlen : l.length = l'.length
  · refine Spec.enter Tryd.func50 rfl Tryd.ntmps50 rfl ?_
    intro w0 hw0
    refine T.seq ?_
    refine T.region ?_
    refine SL.y (op_assign rfl) rfl rfl ?_
    refine SL.nil ?_
    refine T.seq ?_
    refine T.seq ?_
    refine T.region ?_
    refine SL.y (op_move rfl) rfl rfl ?_
    refine SL.y (op_lenS Tryd.underlying74 rfl) rfl rfl ?_
    refine SL.y (op_move rfl) rfl rfl ?_
    refine SL.y (op_lenS Tryd.underlying74 rfl) rfl rfl ?_
    first | refine SL.y (op_neqT rfl rfl (by omega)) rfl rfl ?_ | refine SL.y (op_neqF rfl rfl (by omega)) rfl rfl ?_ | refine SL.y (op_neq rfl rfl) rfl rfl ?_
    refine SL.nil ?_
    refine T.condF rfl ?_
    refine T.skip ?_
    refine T.seq ?_
    refine T.seq ?_
    refine T.region ?_
    refine SL.y (op_move rfl) rfl rfl ?_
    refine SL.y (op_lenS Tryd.underlying74 rfl) rfl rfl ?_
    refine SL.y (op_move (v := .int .i64 ((0 : Nat) : Int)) rfl) rfl rfl ?_
    refine SL.nil ?_
    refine T.block ?_
    -- loop live [0, 1, 4, 12, 13]
    refine T.loopW (fun m env own X' => ∃ k : Nat, m = l.length - k ∧ k ≤ l.length ∧ X.le X' ∧ l.take k = l'.take k ∧ env = [(0, .slice A l.length cp), (1, .slice A' l'.length cp'), (12, .int .i64 (l.length : Int)), (13, .int .i64 (k : Int))] ∧ own = []) l.length ⟨0, by simp, by omega, PMap.le_refl _, rfl, rfl, rfl⟩ (by repeat (first | exact Sub.nil | refine Sub.cons rfl ?_)) ?_
    rintro m _ _ X1 ⟨k, rfl, hk, hX1, hpre, rfl, rfl⟩
    rcases Nat.lt_or_ge k l.length with hkl | hkl
    · obtain ⟨b1, rfl, hb1⟩ := (h.mono hX1).blk (by omega)
      obtain ⟨b2, rfl, hb2⟩ := (h'.mono hX1).blk (by omega)
      obtain ⟨p1, p2, p3⟩ := enC_at (l := l) (i := k) (e := l[k]) (by simp [hkl])
      obtain ⟨q1, q2, q3⟩ := enC_at (l := l') (i := k) (e := l'[k]) (by simp [show k < l'.length by omega])
      refine T.seq ?_
      refine T.region ?_
      first | refine SL.y (op_lssT rfl rfl (by omega)) rfl rfl ?_ | refine SL.y (op_lssF rfl rfl (by omega)) rfl rfl ?_ | refine SL.y (op_lss rfl rfl) rfl rfl ?_
      refine SL.nil ?_
      refine T.seq ?_
      refine T.condT rfl ?_
      refine T.skip ?_
      refine T.seq ?_
      refine T.block ?_
      refine T.seq ?_
      refine T.region ?_
      refine SL.y (op_move rfl) rfl rfl ?_
      refine SL.y (op_assign rfl) rfl rfl ?_
      refine SL.nil ?_
      refine T.seq ?_
      refine T.draw (by kernel_rfl) 9 [.t 0, .t 1, .t 2, .t 3, .t 4, .t 5, .t 6, .t 7, .t 8] (by kernel_rfl) ?_
      refine SD.take rfl panicBody (op_move rfl) rfl rfl ?_
      refine SD.take rfl panicBody (op_move rfl) rfl rfl ?_
      first | refine SD.take rfl panicBody (op_indexN Tryd.underlying74 ty76 rfl rfl (by omega)) rfl rfl ?_ | refine SD.take rfl panicBody (op_index Tryd.underlying74 ty76 rfl rfl (by omega) (by omega)) rfl rfl ?_
      -- to 19: op
      refine SD.take rfl panicBody (op_loadX ty76 rfl hb1 (cread3 p1 p2 p3 (by omega))) rfl rfl ?_
      refine SD.take rfl panicBody (op_move rfl) rfl rfl ?_
      refine SD.take rfl panicBody (op_move rfl) rfl rfl ?_
      first | refine SD.take rfl panicBody (op_indexN Tryd.underlying74 ty76 rfl rfl (by omega)) rfl rfl ?_ | refine SD.take rfl panicBody (op_index Tryd.underlying74 ty76 rfl rfl (by omega) (by omega)) rfl rfl ?_
      -- to 23: op
      refine SD.take rfl panicBody (op_loadX ty76 rfl hb2 (cread3 q1 q2 q3 (by omega))) rfl rfl ?_
      -- op
      refine SD.take rfl panicBody (op_neqStruct3 Tryd.underlying76 Tryd.underlying3 (by kernel_rfl) (by decide) (by decide) (by decide) rfl rfl rfl rfl rfl rfl (by kernel_rfl) rfl rfl) rfl rfl ?_
      refine SD.nil ?_
      show SL _ _ _ _ _ _ _ [] _ _ _
      rw [show decide (l[k].1 = l'[k].1 ∧ l[k].2.1 = l'[k].2.1 ∧ l[k].2.2 = l'[k].2.2) = decide (l[k] = l'[k]) from decide_eq_decide.2 en_eq]
      by_cases he : l[k] = l'[k]
      · rw [decide_eq_true he]
        refine SL.nil ?_
        refine T.condF rfl ?_
        refine T.skip ?_
        refine T.blk ?_
        refine T.region ?_
        first | refine SL.y (op_addN (q := 1) rfl rfl (by omega)) rfl rfl ?_ | refine SL.y (op_add rfl rfl (by omega) (by omega)) rfl rfl ?_ | refine SL.y (op_addW rfl rfl) rfl rfl ?_
        refine SL.y (op_move rfl) rfl rfl ?_
        refine SL.nil ?_
        -- cut
        exact T.backW (l.length - (k + 1)) (by omega) ⟨k + 1, rfl, by omega, hX1, by rw [List.take_succ_eq_append_getElem hkl, List.take_succ_eq_append_getElem (by omega : k < l'.length), hpre, he], rfl, rfl⟩ (by repeat (first | exact Sub.nil | refine Sub.cons rfl ?_))
      · rw [decide_eq_false he]
        refine SL.nil ?_
        refine T.condT rfl ?_
        refine T.seq ?_
        refine T.region ?_
        refine SL.y (op_assign rfl) rfl rfl ?_
        refine SL.nil ?_
        -- ret
        refine T.ret1 rfl (ResIs.tmp rfl) ?_
        rw [decide_eq_false (fun e => he (by simp [e]))]
    · have e : k = l.length := by omega
      subst e
      refine T.seq ?_
      refine T.region ?_
      first | refine SL.y (op_lssT rfl rfl (by omega)) rfl rfl ?_ | refine SL.y (op_lssF rfl rfl (by omega)) rfl rfl ?_ | refine SL.y (op_lss rfl rfl) rfl rfl ?_
      refine SL.nil ?_
      refine T.seq ?_
      refine T.condF rfl ?_
      refine T.exit (T.exitCode (T.exitCut (T.exitBlk ?_)))
      refine T.seq ?_
      refine T.region ?_
      refine SL.y (op_assign rfl) rfl rfl ?_
      refine SL.nil ?_
      -- ret
      refine T.ret1 rfl (ResIs.tmp rfl) ?_
      rw [List.take_length, hlen, List.take_length] at hpre
      rw [decide_eq_true hpre]
  · refine Spec.enter Tryd.func50 rfl Tryd.ntmps50 rfl ?_
    intro w0 hw0
    refine T.seq ?_
    refine T.region ?_
    refine SL.y (op_assign rfl) rfl rfl ?_
    refine SL.nil ?_
    refine T.seq ?_
    refine T.seq ?_
    refine T.region ?_
    refine SL.y (op_move rfl) rfl rfl ?_
    refine SL.y (op_lenS Tryd.underlying74 rfl) rfl rfl ?_
    refine SL.y (op_move rfl) rfl rfl ?_
    refine SL.y (op_lenS Tryd.underlying74 rfl) rfl rfl ?_
    first | refine SL.y (op_neqT rfl rfl (by omega)) rfl rfl ?_ | refine SL.y (op_neqF rfl rfl (by omega)) rfl rfl ?_ | refine SL.y (op_neq rfl rfl) rfl rfl ?_
    refine SL.nil ?_
    refine T.condT rfl ?_
    refine T.seq ?_
    refine T.region ?_
    refine SL.y (op_assign rfl) rfl rfl ?_
    refine SL.nil ?_
    -- ret
    refine T.ret1 rfl (ResIs.tmp rfl) ?_
    rw [decide_eq_false (fun e => hlen (by rw [e]))]
theorem eqEnR_spec {X : PMap} {v v' : Value} {l l' : List En} (h : SliceR X v l.length (enC l)) (h' : SliceR X v' l'.length (enC l')) (hs : l.length < 2147483648) : Spec Tryd.prog 16 [v, v'] X fun u _ => u = .bool (decide (l = l')) := by
  obtain ⟨A, cp, rfl⟩ := h.form
  obtain ⟨A', cp', rfl⟩ := h'.form
  by_cases hlen : l.length = l'.length
  · refine Spec.enter Tryd.func16 rfl Tryd.ntmps16 rfl ?_
    intro w0 hw0
    refine T.seq ?_
    refine T.region ?_
    refine SL.y (op_assign rfl) rfl rfl ?_
    refine SL.nil ?_
    refine T.seq ?_
    refine T.seq ?_
    refine T.region ?_
    refine SL.y (op_move rfl) rfl rfl ?_
    refine SL.y (op_lenS Tryd.underlying25 rfl) rfl rfl ?_
    refine SL.y (op_move rfl) rfl rfl ?_
    refine SL.y (op_lenS Tryd.underlying25 rfl) rfl rfl ?_
    first | refine SL.y (op_neqT rfl rfl (by omega)) rfl rfl ?_ | refine SL.y (op_neqF rfl rfl (by omega)) rfl rfl ?_ | refine SL.y (op_neq rfl rfl) rfl rfl ?_
    refine SL.nil ?_
    refine T.condF rfl ?_
    refine T.skip ?_
    refine T.seq ?_
    refine T.seq ?_
    refine T.region ?_
    refine SL.y (op_move rfl) rfl rfl ?_
    refine SL.y (op_lenS Tryd.underlying25 rfl) rfl rfl ?_
    refine SL.y (op_move (v := .int .i64 ((0 : Nat) : Int)) rfl) rfl rfl ?_
    refine SL.nil ?_
    refine T.block ?_
    -- loop live [0, 1, 4, 12, 13]
    refine T.loopW (fun m env own X' => ∃ k : Nat, m = l.length - k ∧ k ≤ l.length ∧ X.le X' ∧ l.take k = l'.take k ∧ env = [(0, .slice A l.length cp), (1, .slice A' l'.length cp'), (12, .int .i64 (l.length : Int)), (13, .int .i64 (k : Int))] ∧ own = []) l.length ⟨0, by simp, by omega, PMap.le_refl _, rfl, rfl, rfl⟩ (by repeat (first | exact Sub.nil | refine Sub.cons rfl ?_)) ?_
    rintro m _ _ X1 ⟨k, rfl, hk, hX1, hpre, rfl, rfl⟩
    rcases Nat.lt_or_ge k l.length with hkl | hkl
    · obtain ⟨b1, rfl, hb1⟩ := (h.mono hX1).blk (by omega)
      obtain ⟨b2, rfl, hb2⟩ := (h'.mono hX1).blk (by omega)
      obtain ⟨p1, p2, p3⟩ := enC_at (l := l) (i := k) (e := l[k]) (by simp [hkl])
      obtain ⟨q1, q2, q3⟩ := enC_at (l := l') (i := k) (e := l'[k]) (by simp [show k < l'.length by omega])
      refine T.seq ?_
      refine T.region ?_
      first | refine SL.y (op_lssT rfl rfl (by omega)) rfl rfl ?_ | refine SL.y (op_lssF rfl rfl (by omega)) rfl rfl ?_ | refine SL.y (op_lss rfl rfl) rfl rfl ?_
      refine SL.nil ?_
      refine T.seq ?_
      refine T.condT rfl ?_
      refine T.skip ?_
      refine T.seq ?_
      refine T.block ?_
      refine T.seq ?_
      refine T.region ?_
      refine SL.y (op_move rfl) rfl rfl ?_
      refine SL.y (op_assign rfl) rfl rfl ?_
      refine SL.nil ?_
      refine T.seq ?_
      refine T.draw (by kernel_rfl) 9 [.t 0, .t 1, .t 2, .t 3, .t 4, .t 5, .t 6, .t 7, .t 8] (by kernel_rfl) ?_
      refine SD.take rfl panicBody (op_move rfl) rfl rfl ?_
      refine SD.take rfl panicBody (op_move rfl) rfl rfl ?_
      first | refine SD.take rfl panicBody (op_indexN Tryd.underlying25 ty33 rfl rfl (by omega)) rfl rfl ?_ | refine SD.take rfl panicBody (op_index Tryd.underlying25 ty33 rfl rfl (by omega) (by omega)) rfl rfl ?_
      -- to 19: op
      refine SD.take rfl panicBody (op_loadX ty33 rfl hb1 (cread3 p1 p2 p3 (by omega))) rfl rfl ?_
      refine SD.take rfl panicBody (op_move rfl) rfl rfl ?_
      refine SD.take rfl panicBody (op_move rfl) rfl rfl ?_
      first | refine SD.take rfl panicBody (op_indexN Tryd.underlying25 ty33 rfl rfl (by omega)) rfl rfl ?_ | refine SD.take rfl panicBody (op_index Tryd.underlying25 ty33 rfl rfl (by omega) (by omega)) rfl rfl ?_
      -- to 23: op
      refine SD.take rfl panicBody (op_loadX ty33 rfl hb2 (cread3 q1 q2 q3 (by omega))) rfl rfl ?_
      -- op
      refine SD.take rfl panicBody (op_neqStruct3 Tryd.underlying33 Tryd.underlying3 (by kernel_rfl) (by decide) (by decide) (by decide) rfl rfl rfl rfl rfl rfl (by kernel_rfl) rfl rfl) rfl rfl ?_
      refine SD.nil ?_
      show SL _ _ _ _ _ _ _ [] _ _ _
      rw [show decide (l[k].1 = l'[k].1 ∧ l[k].2.1 = l'[k].2.1 ∧ l[k].2.2 = l'[k].2.2) = decide (l[k] = l'[k]) from decide_eq_decide.2 en_eq]
      by_cases he : l[k] = l'[k]
      · rw [decide_eq_true he]
        refine SL.nil ?_
        refine T.condF rfl ?_
        refine T.skip ?_
        refine T.blk ?_
        refine T.region ?_
        first | refine SL.y (op_addN (q := 1) rfl rfl (by omega)) rfl rfl ?_ | refine SL.y (op_add rfl rfl (by omega) (by omega)) rfl rfl ?_ | refine SL.y (op_addW rfl rfl) rfl rfl ?_
        refine SL.y (op_move rfl) rfl rfl ?_
        refine SL.nil ?_
        -- cut
        exact T.backW (l.length - (k + 1)) (by omega) ⟨k + 1, rfl, by omega, hX1, by rw [List.take_succ_eq_append_getElem hkl, List.take_succ_eq_append_getElem (by omega : k < l'.length), hpre, he], rfl, rfl⟩ (by repeat (first | exact Sub.nil | refine Sub.cons rfl ?_))
      · rw [decide_eq_false he]
        refine SL.nil ?_
        refine T.condT rfl ?_
        refine T.seq ?_
        refine T.region ?_
        refine SL.y (op_assign rfl) rfl rfl ?_
        refine SL.nil ?_
        -- ret
        refine T.ret1 rfl (ResIs.tmp rfl) ?_
        rw [decide_eq_false (fun e => he (by simp [e]))]
    · have e : k = l.length := by omega
      subst e
      refine T.seq ?_
      refine T.region ?_
      first | refine SL.y (op_lssT rfl rfl (by omega)) rfl rfl ?_ | refine SL.y (op_lssF rfl rfl (by omega)) rfl rfl ?_ | refine SL.y (op_lss rfl rfl) rfl rfl ?_
      refine SL.nil ?_
      refine T.seq ?_
      refine T.condF rfl ?_
      refine T.exit (T.exitCode (T.exitCut (T.exitBlk ?_)))
      refine T.seq ?_
      refine T.region ?_
      refine SL.y (op_assign rfl) rfl rfl ?_
      refine SL.nil ?_
      -- ret
      refine T.ret1 rfl (ResIs.tmp rfl) ?_
      rw [List.take_length, hlen, List.take_length] at hpre
      rw [decide_eq_true hpre]
  · refine Spec.enter Tryd.func16 rfl Tryd.ntmps16 rfl ?_
    intro w0 hw0
    refine T.seq ?_
    refine T.region ?_
    refine SL.y (op_assign rfl) rfl rfl ?_
    refine SL.nil ?_
    refine T.seq ?_
    refine T.seq ?_
    refine T.region ?_
    refine SL.y (op_move rfl) rfl rfl ?_
    refine SL.y (op_lenS Tryd.underlying25 rfl) rfl rfl ?_
    refine SL.y (op_move rfl) rfl rfl ?_
    refine SL.y (op_lenS Tryd.underlying25 rfl) rfl rfl ?_
    first | refine SL.y (op_neqT rfl rfl (by omega)) rfl rfl ?_ | refine SL.y (op_neqF rfl rfl (by omega)) rfl rfl ?_ | refine SL.y (op_neq rfl rfl) rfl rfl ?_
    refine SL.nil ?_
    refine T.condT rfl ?_
    refine T.seq ?_
    refine T.region ?_
    refine SL.y (op_assign rfl) rfl rfl ?_
    refine SL.nil ?_
    -- ret
    refine T.ret1 rfl (ResIs.tmp rfl) ?_
    rw [decide_eq_false (fun e => hlen (by rw [e]))]
theorem is1_spec {X : PMap} {a b : En} : Spec Tryd.prog 58 [.agg #[.int .i64 a.1, .int .i64 a.2.1, .int .i64 a.2.2], .agg #[.int .i64 b.1, .int .i64 b.2.1, .int .i64 b.2.2]] X fun u _ => u = .bool (decide (a = b)) := by
  refine Spec.enter Tryd.func58 rfl Tryd.ntmps58 rfl ?_
  intro w0 hw0
  refine T.seq ?_
  refine T.region ?_
  refine SL.x (op_box rfl) rfl rfl ?_
  rintro _ _ _ ⟨B2, rfl, rfl, rfl⟩
  refine SL.x (op_box rfl) rfl rfl ?_
  rintro _ _ _ ⟨B3, rfl, rfl, rfl⟩
  refine SL.y (op_assign rfl) rfl rfl ?_
  refine SL.nil ?_
  refine T.seq ?_
  refine T.region ?_
  first | refine SL.y (op_load ty76 rfl (by repeat (first | exact AtO.here | apply AtO.there)) rfl) rfl rfl ?_ | refine SL.y (op_loadX ty76 rfl (by assumption) rfl) rfl rfl ?_
  first | refine SL.y (op_load ty33 rfl (by repeat (first | exact AtO.here | apply AtO.there)) rfl) rfl rfl ?_ | refine SL.y (op_loadX ty33 rfl (by assumption) rfl) rfl rfl ?_
  -- to 7: op
  refine SL.y (op_eqlStruct3 Tryd.underlying33 Tryd.underlying3 (by kernel_rfl) (by decide) (by decide) (by decide) rfl rfl rfl rfl rfl rfl (by kernel_rfl) rfl rfl) rfl rfl ?_
  refine SL.y (op_assign rfl) rfl rfl ?_
  refine SL.nil ?_
  -- ret
  refine T.ret1 rfl (ResIs.tmp rfl) ?_
  rw [decide_eq_decide.2 en_eq]
theorem eqFunc_spec {X : PMap} {v v' : Value} {l l' : List En} (h : SliceR X v l.length (enC l)) (h' : SliceR X v' l'.length (enC l')) (hs : l.length < 2147483648) : Spec Tryd.prog 57 [v, v', .func (.func 58) #[] #[]] X fun u _ => u = .bool (decide (l = l')) := by
  obtain ⟨A, cp, rfl⟩ := h.form
  obtain ⟨A', cp', rfl⟩ := h'.form
  by_cases hlen : l.length = l'.length
  · refine Spec.enter Tryd.func57 rfl Tryd.ntmps57 rfl ?_
    intro w0 hw0
    refine T.seq ?_
    refine T.region ?_
    refine SL.y (op_assign rfl) rfl rfl ?_
    refine SL.nil ?_
    refine T.seq ?_
    refine T.seq ?_
    refine T.region ?_
    refine SL.y (op_move rfl) rfl rfl ?_
    refine SL.y (op_lenS Tryd.underlying74 rfl) rfl rfl ?_
    refine SL.y (op_move rfl) rfl rfl ?_
    refine SL.y (op_lenS Tryd.underlying25 rfl) rfl rfl ?_
    first | refine SL.y (op_neqT rfl rfl (by omega)) rfl rfl ?_ | refine SL.y (op_neqF rfl rfl (by omega)) rfl rfl ?_ | refine SL.y (op_neq rfl rfl) rfl rfl ?_
    refine SL.nil ?_
    refine T.condF rfl ?_
    refine T.skip ?_
    refine T.seq ?_
    refine T.seq ?_
    refine T.region ?_
    refine SL.y (op_move rfl) rfl rfl ?_
    refine SL.y (op_lenS Tryd.underlying74 rfl) rfl rfl ?_
    refine SL.y (op_move (v := .int .i64 ((0 : Nat) : Int)) rfl) rfl rfl ?_
    refine SL.nil ?_
    refine T.block ?_
    -- loop live [1, 2, 6, 15, 16, 17]
    refine T.loopW (fun m env own X' => ∃ k : Nat, m = l.length - k ∧ k ≤ l.length ∧ X.le X' ∧ l.take k = l'.take k ∧ env = [(1, .slice A' l'.length cp'), (2, .func (.func 58) #[] #[]), (15, .slice A l.length cp), (16, .int .i64 (l.length : Int)), (17, .int .i64 (k : Int))] ∧ own = []) l.length ⟨0, by simp, by omega, PMap.le_refl _, rfl, rfl, rfl⟩ (by repeat (first | exact Sub.nil | refine Sub.cons rfl ?_)) ?_
    rintro m _ _ X1 ⟨k, rfl, hk, hX1, hpre, rfl, rfl⟩
    rcases Nat.lt_or_ge k l.length with hkl | hkl
    · obtain ⟨b1, rfl, hb1⟩ := (h.mono hX1).blk (by omega)
      obtain ⟨b2, rfl, hb2⟩ := (h'.mono hX1).blk (by omega)
      obtain ⟨p1, p2, p3⟩ := enC_at (l := l) (i := k) (e := l[k]) (by simp [hkl])
      obtain ⟨q1, q2, q3⟩ := enC_at (l := l') (i := k) (e := l'[k]) (by simp [show k < l'.length by omega])
      refine T.seq ?_
      refine T.region ?_
      first | refine SL.y (op_lssT rfl rfl (by omega)) rfl rfl ?_ | refine SL.y (op_lssF rfl rfl (by omega)) rfl rfl ?_ | refine SL.y (op_lss rfl rfl) rfl rfl ?_
      refine SL.nil ?_
      refine T.seq ?_
      refine T.condT rfl ?_
      refine T.skip ?_
      refine T.seq ?_
      refine T.block ?_
      refine T.seq ?_
      refine T.region ?_
      refine SL.y (op_move rfl) rfl rfl ?_
      first | refine SL.y (op_indexN Tryd.underlying74 ty76 rfl rfl (by omega)) rfl rfl ?_ | refine SL.y (op_index Tryd.underlying74 ty76 rfl rfl (by omega) (by omega)) rfl rfl ?_
      -- to 21: op
      refine SL.y (op_loadX ty76 rfl hb1 (cread3 p1 p2 p3 (by omega))) rfl rfl ?_
      refine SL.x (op_alloc z76) rfl rfl ?_
      rintro _ _ _ ⟨B8, rfl, rfl, rfl⟩
      refine SL.y (op_assign rfl) rfl rfl ?_
      refine SL.x (op_store ty76 rfl rfl (by repeat (first | exact AtO.here | apply AtO.there)) rfl rfl rfl) rfl rfl ?_
      rintro _ _ _ ⟨rfl, rfl⟩
      refine SL.nil ?_
      refine T.seq ?_
      refine T.region ?_
      refine SL.y (op_move rfl) rfl rfl ?_
      refine SL.y (op_move rfl) rfl rfl ?_
      first | refine SL.y (op_indexN Tryd.underlying25 ty33 rfl rfl (by omega)) rfl rfl ?_ | refine SL.y (op_index Tryd.underlying25 ty33 rfl rfl (by omega) (by omega)) rfl rfl ?_
      -- to 25: op
      refine SL.y (op_loadX ty33 rfl hb2 (cread3 q1 q2 q3 (by omega))) rfl rfl ?_
      refine SL.x (op_alloc z33) rfl rfl ?_
      rintro _ _ _ ⟨B9, rfl, rfl, rfl⟩
      refine SL.x (op_store ty33 rfl rfl (by repeat (first | exact AtO.here | apply AtO.there)) rfl rfl rfl) rfl rfl ?_
      rintro _ _ _ ⟨rfl, rfl⟩
      refine SL.nil ?_
      refine T.seq ?_
      refine T.region ?_
      refine SL.y (op_move rfl) rfl rfl ?_
      first | refine SL.y (op_load ty76 rfl (by repeat (first | exact AtO.here | apply AtO.there)) rfl) rfl rfl ?_ | refine SL.y (op_loadX ty76 rfl (by assumption) rfl) rfl rfl ?_
      first | refine SL.y (op_load ty33 rfl (by repeat (first | exact AtO.here | apply AtO.there)) rfl) rfl rfl ?_ | refine SL.y (op_loadX ty33 rfl (by assumption) rfl) rfl rfl ?_
      -- op
      refine SL.x (op_call en58 rfl (vs := [_, _]) rfl (is1_spec (a := l[k]) (b := l'[k]))) rfl rfl ?_
      rintro _ _ X2 ⟨rfl, hX2, rfl⟩
      by_cases he : l[k] = l'[k]
      · rw [decide_eq_true he]
        refine SL.y (op_not rfl) rfl rfl ?_
        refine SL.nil ?_
        refine T.condF rfl ?_
        refine T.skip ?_
        refine T.blk ?_
        refine T.region ?_
        first | refine SL.y (op_addN (q := 1) rfl rfl (by omega)) rfl rfl ?_ | refine SL.y (op_add rfl rfl (by omega) (by omega)) rfl rfl ?_ | refine SL.y (op_addW rfl rfl) rfl rfl ?_
        refine SL.y (op_move rfl) rfl rfl ?_
        refine SL.nil ?_
        -- cut
        refine T.drop B8 (by repeat (first | exact AtO.here | apply AtO.there)) ?_
        refine T.drop B9 (by repeat (first | exact AtO.here | apply AtO.there)) ?_
        exact T.backW (l.length - (k + 1)) (by omega) ⟨k + 1, rfl, by omega, hX1.trans' hX2, by rw [List.take_succ_eq_append_getElem hkl, List.take_succ_eq_append_getElem (by omega : k < l'.length), hpre, he], rfl, rfl⟩ (by repeat (first | exact Sub.nil | refine Sub.cons rfl ?_))
      · rw [decide_eq_false he]
        refine SL.y (op_not rfl) rfl rfl ?_
        refine SL.nil ?_
        refine T.condT rfl ?_
        refine T.seq ?_
        refine T.region ?_
        refine SL.y (op_assign rfl) rfl rfl ?_
        refine SL.nil ?_
        -- ret
        refine T.ret1 rfl (ResIs.tmp rfl) ?_
        rw [decide_eq_false (fun e => he (by simp [e]))]
    · have e : k = l.length := by omega
      subst e
      refine T.seq ?_
      refine T.region ?_
      first | refine SL.y (op_lssT rfl rfl (by omega)) rfl rfl ?_ | refine SL.y (op_lssF rfl rfl (by omega)) rfl rfl ?_ | refine SL.y (op_lss rfl rfl) rfl rfl ?_
      refine SL.nil ?_
      refine T.seq ?_
      refine T.condF rfl ?_
      refine T.exit (T.exitCode (T.exitCut (T.exitBlk ?_)))
      refine T.seq ?_
      refine T.region ?_
      refine SL.y (op_assign rfl) rfl rfl ?_
      refine SL.nil ?_
      -- ret
      refine T.ret1 rfl (ResIs.tmp rfl) ?_
      rw [List.take_length, hlen, List.take_length] at hpre
      rw [decide_eq_true hpre]
  · refine Spec.enter Tryd.func57 rfl Tryd.ntmps57 rfl ?_
    intro w0 hw0
    refine T.seq ?_
    refine T.region ?_
    refine SL.y (op_assign rfl) rfl rfl ?_
    refine SL.nil ?_
    refine T.seq ?_
    refine T.seq ?_
    refine T.region ?_
    refine SL.y (op_move rfl) rfl rfl ?_
    refine SL.y (op_lenS Tryd.underlying74 rfl) rfl rfl ?_
    refine SL.y (op_move rfl) rfl rfl ?_
    refine SL.y (op_lenS Tryd.underlying25 rfl) rfl rfl ?_
    first | refine SL.y (op_neqT rfl rfl (by omega)) rfl rfl ?_ | refine SL.y (op_neqF rfl rfl (by omega)) rfl rfl ?_ | refine SL.y (op_neq rfl rfl) rfl rfl ?_
    refine SL.nil ?_
    refine T.condT rfl ?_
    refine T.seq ?_
    refine T.region ?_
    refine SL.y (op_assign rfl) rfl rfl ?_
    refine SL.nil ?_
    -- ret
    refine T.ret1 rfl (ResIs.tmp rfl) ?_
    rw [decide_eq_false (fun e => hlen (by rw [e]))]
end Go.Proofs.YtkmnlogacfkjmaaDoor
