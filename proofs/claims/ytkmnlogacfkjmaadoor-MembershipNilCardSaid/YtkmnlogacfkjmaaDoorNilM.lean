/- MembershipNil answers true. -/
import Derived.Test.YtkmnlogacfkjmaaDoorAw
import Derived.Test.YtkmnlogacfkjmaaDoorLaw2
namespace Go.Proofs.YtkmnlogacfkjmaaDoor
section
set_option maxRecDepth 100000
theorem en12 : Enters Tryd.prog 12 := enters_mk Tryd.func12 (by kernel_rfl) rfl
theorem en13 : Enters Tryd.prog 13 := enters_mk Tryd.func13 (by kernel_rfl) rfl
theorem en17 : Enters Tryd.prog 17 := enters_mk Tryd.func17 (by kernel_rfl) rfl
theorem en25 : Enters Tryd.prog 25 := enters_mk Tryd.func25 (by kernel_rfl) rfl
theorem en29 : Enters Tryd.prog 29 := enters_mk Tryd.func29 (by kernel_rfl) rfl
theorem en40 : Enters Tryd.prog 40 := enters_mk Tryd.func40 (by kernel_rfl) rfl
end
open Go.RowKit
section
variable {P : Program} {n : NM} {own : Own} {X : PMap} {env : Env} {t t' : TypeId} {x y : Operand}
theorem run_equalNilPtr {e : TypeId} {o : Option Addr} (ht : P.underlying t = some (.pointer e)) (W : World) : (Op.equal t (.pointer none) (.pointer o)).run P W = .ok o.isNone W := by
  have h : ∀ d : Nat, (Op.equalIn (d + 1) t (.pointer none) (.pointer o)).run P W = .ok o.isNone W := fun d => by
    unfold Op.equalIn
    cases o <;> simp [Sem.run_bind, run_underlying ht, Sem.run_pure]
  exact h _
theorem op_eqlNilL {e : TypeId} {o : Option Addr} (ht : P.underlying t = some (.pointer e)) (hx : eev env x = some (.pointer none)) (hy : eev env y = some (.pointer o)) : OpY P n env own X (.binOp .eql t x y t') (.bool o.isNone) := by
  intro a W oper hop ha _
  have h0 : ∀ (e : BinOp) (u v : Operand), eqGuard e t u v (.pointer none) (.pointer o) = pure () := fun e u v => by cases e <;> rfl
  simp only [execOp, hop, ha.eval hx, ha.eval hy, binOp, h0, Sem.run_bind, Sem.run_pure, Result.andThen_ok, run_equalNilPtr ht]
end
theorem bequalNR {X : PMap} {b : Nat} : Spec Tryd.prog 17 [.pointer none, .pointer (some ⟨b, 0, none⟩)] X fun u _ => u = .bool false := by
  refine Spec.enter Tryd.func17 rfl Tryd.ntmps17 rfl ?_
  intro w0 hw0
  refine T.seq ?_
  refine T.region ?_
  refine SL.y (op_assign rfl) rfl rfl ?_
  refine SL.nil ?_
  refine T.seq ?_
  refine T.seq ?_
  refine T.region ?_
  refine SL.y (op_move rfl) rfl rfl ?_
  refine SL.y (op_eqlNil Tryd.underlying24 rfl rfl) rfl rfl ?_
  refine SL.y (op_move rfl) rfl rfl ?_
  first | refine SL.skip rfl rfl ?_ | refine SL.y (op_move rfl) rfl rfl ?_
  first | refine SL.skip rfl rfl ?_ | refine SL.y (op_eqlNil Tryd.underlying24 rfl rfl) rfl rfl ?_
  first | refine SL.y (op_pickT rfl rfl) rfl rfl ?_ | refine SL.y (op_pickF rfl rfl) rfl rfl ?_ | refine SL.y (op_pickB rfl rfl rfl) rfl rfl ?_
  refine SL.nil ?_
  refine T.condT rfl ?_
  refine T.seq ?_
  refine T.region ?_
  refine SL.y (op_move rfl) rfl rfl ?_
  refine SL.y (op_move rfl) rfl rfl ?_
  -- to 13: op
  refine SL.y (op_eqlNilL Tryd.underlying24 rfl rfl) rfl rfl ?_
  refine SL.y (op_assign rfl) rfl rfl ?_
  refine SL.nil ?_
  -- ret
  refine T.ret1 rfl (ResIs.tmp rfl) ?_
  rfl
theorem bequalRN {X : PMap} {b : Nat} : Spec Tryd.prog 17 [.pointer (some ⟨b, 0, none⟩), .pointer none] X fun u _ => u = .bool false := by
  refine Spec.enter Tryd.func17 rfl Tryd.ntmps17 rfl ?_
  intro w0 hw0
  refine T.seq ?_
  refine T.region ?_
  refine SL.y (op_assign rfl) rfl rfl ?_
  refine SL.nil ?_
  refine T.seq ?_
  refine T.seq ?_
  refine T.region ?_
  refine SL.y (op_move rfl) rfl rfl ?_
  refine SL.y (op_eqlNil Tryd.underlying24 rfl rfl) rfl rfl ?_
  refine SL.y (op_move rfl) rfl rfl ?_
  first | refine SL.skip rfl rfl ?_ | refine SL.y (op_move rfl) rfl rfl ?_
  first | refine SL.skip rfl rfl ?_ | refine SL.y (op_eqlNil Tryd.underlying24 rfl rfl) rfl rfl ?_
  first | refine SL.y (op_pickT rfl rfl) rfl rfl ?_ | refine SL.y (op_pickF rfl rfl) rfl rfl ?_ | refine SL.y (op_pickB rfl rfl rfl) rfl rfl ?_
  refine SL.nil ?_
  refine T.condT rfl ?_
  refine T.seq ?_
  refine T.region ?_
  refine SL.y (op_move rfl) rfl rfl ?_
  refine SL.y (op_move rfl) rfl rfl ?_
  -- to 13: op
  refine SL.y (op_eqlNil Tryd.underlying24 rfl rfl) rfl rfl ?_
  refine SL.y (op_assign rfl) rfl rfl ?_
  refine SL.nil ?_
  -- ret
  refine T.ret1 rfl (ResIs.tmp rfl) ?_
  rfl
theorem bequalNN {X : PMap} : Spec Tryd.prog 17 [.pointer none, .pointer none] X fun u _ => u = .bool true := by
  refine Spec.enter Tryd.func17 rfl Tryd.ntmps17 rfl ?_
  intro w0 hw0
  refine T.seq ?_
  refine T.region ?_
  refine SL.y (op_assign rfl) rfl rfl ?_
  refine SL.nil ?_
  refine T.seq ?_
  refine T.seq ?_
  refine T.region ?_
  refine SL.y (op_move rfl) rfl rfl ?_
  refine SL.y (op_eqlNil Tryd.underlying24 rfl rfl) rfl rfl ?_
  refine SL.y (op_move rfl) rfl rfl ?_
  first | refine SL.skip rfl rfl ?_ | refine SL.y (op_move rfl) rfl rfl ?_
  first | refine SL.skip rfl rfl ?_ | refine SL.y (op_eqlNil Tryd.underlying24 rfl rfl) rfl rfl ?_
  first | refine SL.y (op_pickT rfl rfl) rfl rfl ?_ | refine SL.y (op_pickF rfl rfl) rfl rfl ?_ | refine SL.y (op_pickB rfl rfl rfl) rfl rfl ?_
  refine SL.nil ?_
  refine T.condT rfl ?_
  refine T.seq ?_
  refine T.region ?_
  refine SL.y (op_move rfl) rfl rfl ?_
  refine SL.y (op_move rfl) rfl rfl ?_
  -- to 13: op
  refine SL.y (op_eqlNil Tryd.underlying24 rfl rfl) rfl rfl ?_
  refine SL.y (op_assign rfl) rfl rfl ?_
  refine SL.nil ?_
  -- ret
  refine T.ret1 rfl (ResIs.tmp rfl) ?_
  rfl
theorem nilM_spec {X : PMap} (hT : Tab X) {s : Value} {l : List Rw} (h : RawR X s l) (hl : rawOk l) (x day : Int) : Spec Tryd.prog 9 [s, .int .i64 x, .int .i64 day] X fun u _ => u = .bool true := by
  obtain ⟨A, cp, rfl⟩ := h.form
  refine Spec.enter Tryd.func9 rfl Tryd.ntmps9 rfl ?_
  intro w0 hw0
  refine T.seq ?_
  refine T.region ?_
  refine SL.y (op_assign rfl) rfl rfl ?_
  refine SL.nil ?_
  refine T.seq ?_
  refine T.seq ?_
  refine T.region ?_
  -- op
  refine SL.x (op_callF en12 (vs := []) rfl (awake12_spec hT)) rfl rfl ?_
  rintro _ _ X1 ⟨rfl, hX1, rfl⟩
  refine SL.y (op_not rfl) rfl rfl ?_
  refine SL.nil ?_
  refine T.condF rfl ?_
  refine T.skip ?_
  refine T.seq ?_
  refine T.region ?_
  refine SL.y (op_move rfl) rfl rfl ?_
  -- op
  refine SL.x (op_callF en13 (vs := [_]) rfl (make12_spec (h.mono hX1) hl)) rfl rfl ?_
  rintro _ _ X2 ⟨rfl, hX2, p, t, rfl, hp, ht⟩
  have hw := mkE_wf l
  have hln := mkE_len l
  generalize mkE l = L at *
  obtain ⟨bp, sv, rfl, hb, hs⟩ := hp
  obtain ⟨At, ct, rfl⟩ := SliceR.form ht
  have hP : BkR X2 (.pointer (some ⟨bp, 0, none⟩)) L := ⟨bp, sv, rfl, hb, hs⟩
  refine SL.y (op_move rfl) rfl rfl ?_
  refine SL.y (op_extract rfl rfl) rfl rfl ?_
  refine SL.y (op_extract rfl rfl) rfl rfl ?_
  refine SL.y (op_assign rfl) rfl rfl ?_
  refine SL.y (op_assign rfl) rfl rfl ?_
  refine SL.nil ?_
  refine T.seq ?_
  refine T.seq ?_
  refine T.region ?_
  refine SL.y (op_move rfl) rfl rfl ?_
  refine SL.y (op_eqlNil Tryd.underlying24 rfl rfl) rfl rfl ?_
  refine SL.nil ?_
  refine T.condF rfl ?_
  refine T.skip ?_
  refine T.seq ?_
  refine T.region ?_
  refine SL.y (op_move rfl) rfl rfl ?_
  -- op
  refine SL.x (op_callO en39 (vs := [_]) rfl (entries_spec (.inl hP) (by omega))) rfl rfl ?_
  rintro sv3 _ X3 ⟨G, rfl, hX3, hG⟩
  obtain ⟨Ae, ce, rfl⟩ := hG.form
  refine SL.y (op_assign rfl) rfl rfl ?_
  refine SL.nil ?_
  refine T.seq ?_
  refine T.seq ?_
  refine T.region ?_
  refine SL.y (op_move rfl) rfl rfl ?_
  refine SL.y (op_lenS Tryd.underlying74 rfl) rfl rfl ?_
  refine SL.y (op_move (v := .int .i64 ((0 : Nat) : Int)) rfl) rfl rfl ?_
  refine SL.nil ?_
  refine T.block ?_
  -- loop live [1, 2, 6, 7, 8, 9, 32, 33]
  refine T.perm (own' := G) (by simp) ?_
  refine T.loopW (fun m env own X' => ∃ (k : Nat) (cs : List Value), m = L.length - k ∧ k ≤ L.length ∧ X3.le X' ∧ GrowS 76 3 (.slice Ae L.length ce) L.length cs own ∧ env = [(1, .int .i64 x), (2, .int .i64 day), (7, .pointer (some ⟨bp, 0, none⟩)), (8, .slice At L.length ct), (9, .slice Ae L.length ce), (32, .int .i64 (L.length : Int)), (33, .int .i64 (k : Int))]) L.length ⟨0, _, by simp, by omega, PMap.le_refl _, hG, rfl⟩ (by repeat (first | exact Sub.nil | refine Sub.cons rfl ?_)) ?_
  rintro m _ _ X4 ⟨k, cs, rfl, hk, hX4, hG4, rfl⟩
  rcases Nat.lt_or_ge k L.length with hkl | hkl
  · rcases hG4 with ⟨g1, _⟩ | ⟨bG, capG, ge, rfl, hg1, hg2, hg3⟩
    · omega
    · simp only [Value.slice.injEq, true_and] at ge
      obtain ⟨rfl, rfl⟩ := ge
      refine T.seq ?_
      refine T.region ?_
      first | refine SL.y (op_lssT rfl rfl (by omega)) rfl rfl ?_ | refine SL.y (op_lssF rfl rfl (by omega)) rfl rfl ?_ | refine SL.y (op_lss rfl rfl) rfl rfl ?_
      refine SL.nil ?_
      refine T.seq ?_
      refine T.condT rfl ?_
      refine T.skip ?_
      refine T.seq ?_
      refine T.block ?_
      refine T.seq ?_
      refine T.region ?_
      refine SL.y (op_move rfl) rfl rfl ?_
      refine SL.y (op_assign rfl) rfl rfl ?_
      refine SL.nil ?_
      refine T.region ?_
      refine SL.y (op_move rfl) rfl rfl ?_
      refine SL.y (op_move rfl) rfl rfl ?_
      refine SL.y (op_move rfl) rfl rfl ?_
      first | refine SL.y (op_indexN Tryd.underlying74 ty76 rfl rfl (by omega)) rfl rfl ?_ | refine SL.y (op_index Tryd.underlying74 ty76 rfl rfl (by omega) (by omega)) rfl rfl ?_
      refine SL.y (op_fieldAddr fa76_2 rfl) rfl rfl ?_
      -- to store: op
      refine SL.x (op_store ty3 rfl rfl (by repeat (first | exact AtO.here | apply AtO.there)) rfl rfl (Nat.ble_eq_true_of_le (by simp; omega))) rfl rfl ?_
      rintro _ _ _ ⟨rfl, rfl⟩
      refine SL.nil ?_
      refine T.blk ?_
      refine T.region ?_
      first | refine SL.y (op_addN (q := 1) rfl rfl (by omega)) rfl rfl ?_ | refine SL.y (op_add rfl rfl (by omega) (by omega)) rfl rfl ?_ | refine SL.y (op_addW rfl rfl) rfl rfl ?_
      refine SL.y (op_move rfl) rfl rfl ?_
      refine SL.nil ?_
      -- cut
      exact T.backW (L.length - (k + 1)) (by omega) ⟨k + 1, _, rfl, by omega, hX4, .inr ⟨bG, ce, rfl, rfl, hg1, hg2, by rw [csets_length]; exact hg3⟩, rfl⟩ (by repeat (first | exact Sub.nil | refine Sub.cons rfl ?_))
  · refine T.less (List.nil_sublist _) ?_
    refine T.seq ?_
    refine T.region ?_
    first | refine SL.y (op_lssT rfl rfl (by omega)) rfl rfl ?_ | refine SL.y (op_lssF rfl rfl (by omega)) rfl rfl ?_ | refine SL.y (op_lss rfl rfl) rfl rfl ?_
    refine SL.nil ?_
    refine T.seq ?_
    refine T.condF rfl ?_
    refine T.exit (T.exitCode (T.exitCut (T.exitBlk ?_)))
    refine T.seq ?_
    refine T.region ?_
    refine SL.y (op_move rfl) rfl rfl ?_
    -- op
    refine SL.x (op_callO en23 (vs := [_, _, _]) rfl (users_spec (.inl ((hP.mono hX3).mono hX4)) hw (by omega) (r := 1) (d := 3))) rfl rfl ?_
    rintro sv5 _ X5 ⟨G5, rfl, hX5, hG5⟩
    obtain ⟨Au, cu, rfl⟩ := hG5.form
    have hul := usersE_len L 1 3
    generalize usersE L 1 3 = U at *
    refine SL.y (op_assign rfl) rfl rfl ?_
    refine SL.nil ?_
    refine T.seq ?_
    refine T.seq ?_
    refine T.region ?_
    refine SL.y (op_move rfl) rfl rfl ?_
    refine SL.y (op_lenS Tryd.underlying46 rfl) rfl rfl ?_
    refine SL.y (op_move (v := .int .i64 ((0 : Nat) : Int)) rfl) rfl rfl ?_
    refine SL.nil ?_
    refine T.block ?_
    -- loop live [1, 2, 6, 7, 8, 11, 45, 46]
    refine T.perm (own' := G5) (by simp) ?_
    refine T.loopW (fun m env own X' => ∃ (k : Nat) (cs : List Value), m = U.length - k ∧ k ≤ U.length ∧ X5.le X' ∧ GrowS 3 1 (.slice Au U.length cu) U.length cs own ∧ env = [(1, .int .i64 x), (2, .int .i64 day), (7, .pointer (some ⟨bp, 0, none⟩)), (8, .slice At L.length ct), (11, .slice Au U.length cu), (45, .int .i64 (U.length : Int)), (46, .int .i64 (k : Int))]) U.length ⟨0, _, by simp, by omega, PMap.le_refl _, hG5, rfl⟩ (by repeat (first | exact Sub.nil | refine Sub.cons rfl ?_)) ?_
    rintro m _ _ X6 ⟨k2, cs2, rfl, hk2, hX6, hG6, rfl⟩
    rcases Nat.lt_or_ge k2 U.length with hkl2 | hkl2
    · rcases hG6 with ⟨g1, _⟩ | ⟨bG, capG, ge, rfl, hg1, hg2, hg3⟩
      · omega
      · simp only [Value.slice.injEq, true_and] at ge
        obtain ⟨rfl, rfl⟩ := ge
        refine T.seq ?_
        refine T.region ?_
        first | refine SL.y (op_lssT rfl rfl (by omega)) rfl rfl ?_ | refine SL.y (op_lssF rfl rfl (by omega)) rfl rfl ?_ | refine SL.y (op_lss rfl rfl) rfl rfl ?_
        refine SL.nil ?_
        refine T.seq ?_
        refine T.condT rfl ?_
        refine T.skip ?_
        refine T.seq ?_
        refine T.block ?_
        refine T.seq ?_
        refine T.region ?_
        refine SL.y (op_move rfl) rfl rfl ?_
        refine SL.y (op_assign rfl) rfl rfl ?_
        refine SL.nil ?_
        refine T.region ?_
        refine SL.y (op_move rfl) rfl rfl ?_
        refine SL.y (op_move rfl) rfl rfl ?_
        refine SL.y (op_move rfl) rfl rfl ?_
        first | refine SL.y (op_indexN Tryd.underlying46 ty3 rfl rfl (by omega)) rfl rfl ?_ | refine SL.y (op_index Tryd.underlying46 ty3 rfl rfl (by omega) (by omega)) rfl rfl ?_
        -- to store: op
        refine SL.x (op_store ty3 rfl rfl (by repeat (first | exact AtO.here | apply AtO.there)) rfl rfl (Nat.ble_eq_true_of_le (by simp; omega))) rfl rfl ?_
        rintro _ _ _ ⟨rfl, rfl⟩
        refine SL.nil ?_
        refine T.blk ?_
        refine T.region ?_
        first | refine SL.y (op_addN (q := 1) rfl rfl (by omega)) rfl rfl ?_ | refine SL.y (op_add rfl rfl (by omega) (by omega)) rfl rfl ?_ | refine SL.y (op_addW rfl rfl) rfl rfl ?_
        refine SL.y (op_move rfl) rfl rfl ?_
        refine SL.nil ?_
        -- cut
        exact T.backW (U.length - (k2 + 1)) (by omega) ⟨k2 + 1, _, rfl, by omega, hX6, .inr ⟨bG, cu, rfl, rfl, hg1, hg2, by rw [csets_length]; exact hg3⟩, rfl⟩ (by repeat (first | exact Sub.nil | refine Sub.cons rfl ?_))
    · refine T.less (List.nil_sublist _) ?_
      refine T.seq ?_
      refine T.region ?_
      first | refine SL.y (op_lssT rfl rfl (by omega)) rfl rfl ?_ | refine SL.y (op_lssF rfl rfl (by omega)) rfl rfl ?_ | refine SL.y (op_lss rfl rfl) rfl rfl ?_
      refine SL.nil ?_
      refine T.seq ?_
      refine T.condF rfl ?_
      refine T.exit (T.exitCode (T.exitCut (T.exitBlk ?_)))
      refine T.seq ?_
      refine T.region ?_
      refine SL.y (op_assign rfl) rfl rfl ?_
      refine SL.nil ?_
      refine T.seq ?_
      refine T.region ?_
      refine SL.y (op_move rfl) rfl rfl ?_
      -- op
      refine SL.x (op_callF en15 (vs := [_, _, _, _]) rfl (assignN_spec)) rfl rfl ?_
      rintro _ _ X7 ⟨rfl, hX7, rfl⟩
      refine SL.y (op_move rfl) rfl rfl ?_
      refine SL.y (op_extract rfl rfl) rfl rfl ?_
      refine SL.y (op_extract rfl rfl) rfl rfl ?_
      refine SL.y (op_assign rfl) rfl rfl ?_
      refine SL.y (op_assign rfl) rfl rfl ?_
      refine SL.nil ?_
      refine T.seq ?_
      refine T.region ?_
      refine SL.y (op_move rfl) rfl rfl ?_
      -- op
      refine SL.x (op_callF en25 (vs := [_, _, _]) rfl (revokeN_spec)) rfl rfl ?_
      rintro _ _ X8 ⟨rfl, hX8, rfl⟩
      refine SL.y (op_move rfl) rfl rfl ?_
      refine SL.y (op_extract rfl rfl) rfl rfl ?_
      refine SL.y (op_extract rfl rfl) rfl rfl ?_
      refine SL.y (op_assign rfl) rfl rfl ?_
      refine SL.y (op_assign rfl) rfl rfl ?_
      refine SL.nil ?_
      refine T.seq ?_
      refine T.region ?_
      refine SL.y (op_move rfl) rfl rfl ?_
      refine SL.y (op_move rfl) rfl rfl ?_
      refine SL.y (op_move rfl) rfl rfl ?_
      -- op
      refine SL.x (op_callF en20 (vs := [_, _, _]) rfl (until_spec (l := []) (.inr ⟨rfl, rfl⟩) wf_nil (by simp) (u := x) (r := day))) rfl rfl ?_
      rintro _ _ X9 ⟨rfl, hX9, rfl⟩
      rw [show untilE [] x day = none from rfl, Option.getD_none, Option.isSome_none]
      have hX29 := (((((hX3.trans' hX4).trans' hX5).trans' hX6).trans' hX7).trans' hX8).trans' hX9
      refine SL.y (op_move rfl) rfl rfl ?_
      refine SL.y (op_extract rfl rfl) rfl rfl ?_
      refine SL.y (op_extract rfl rfl) rfl rfl ?_
      refine SL.y (op_assign rfl) rfl rfl ?_
      refine SL.y (op_assign rfl) rfl rfl ?_
      refine SL.nil ?_
      refine T.seq ?_
      refine T.region ?_
      refine SL.y (op_move rfl) rfl rfl ?_
      refine SL.y (op_move rfl) rfl rfl ?_
      -- op
      refine SL.x (op_callF en29 (vs := [_, _]) rfl (is_spec (hP.mono hX29) (ht.mono hX29) (by omega))) rfl rfl ?_
      rintro _ _ X10 ⟨rfl, hX10, rfl⟩
      rw [decide_eq_true rfl]
      refine SL.y (op_move rfl) rfl rfl ?_
      first | refine SL.skip rfl rfl ?_ | refine SL.y (op_move rfl) rfl rfl ?_
      first | refine SL.skip rfl rfl ?_ | refine SL.y (op_eqlT rfl rfl (by omega)) rfl rfl ?_ | refine SL.y (op_eqlF rfl rfl (by omega)) rfl rfl ?_ | refine SL.y (op_eql rfl rfl) rfl rfl ?_
      first | refine SL.y (op_pickT rfl rfl) rfl rfl ?_ | refine SL.y (op_pickF rfl rfl) rfl rfl ?_ | refine SL.y (op_pickB rfl rfl rfl) rfl rfl ?_
      refine SL.y (op_move rfl) rfl rfl ?_
      first | refine SL.skip rfl rfl ?_ | refine SL.y (op_move rfl) rfl rfl ?_
      first | refine SL.skip rfl rfl ?_ | refine SL.y (op_eqlT rfl rfl (by omega)) rfl rfl ?_ | refine SL.y (op_eqlF rfl rfl (by omega)) rfl rfl ?_ | refine SL.y (op_eql rfl rfl) rfl rfl ?_
      first | refine SL.y (op_pickT rfl rfl) rfl rfl ?_ | refine SL.y (op_pickF rfl rfl) rfl rfl ?_ | refine SL.y (op_pickB rfl rfl rfl) rfl rfl ?_
      refine SL.y (op_move rfl) rfl rfl ?_
      first | refine SL.skip rfl rfl ?_ | refine SL.y (op_move rfl) rfl rfl ?_
      first | refine SL.skip rfl rfl ?_ | refine SL.y (op_not rfl) rfl rfl ?_
      first | refine SL.y (op_pickT rfl rfl) rfl rfl ?_ | refine SL.y (op_pickF rfl rfl) rfl rfl ?_ | refine SL.y (op_pickB rfl rfl rfl) rfl rfl ?_
      refine SL.y (op_move rfl) rfl rfl ?_
      first | refine SL.skip rfl rfl ?_ | refine SL.y (op_move rfl) rfl rfl ?_
      first | refine SL.skip rfl rfl ?_ | refine SL.y (op_move rfl) rfl rfl ?_
      -- op
      refine SL.x (op_callF en27 (vs := [_, _]) rfl (expireN_spec)) rfl rfl ?_
      rintro _ _ X11 ⟨rfl, hX11, rfl⟩
      first | refine SL.skip rfl rfl ?_ | refine SL.y (op_eqlNil Tryd.underlying24 rfl rfl) rfl rfl ?_
      first | refine SL.y (op_pickT rfl rfl) rfl rfl ?_ | refine SL.y (op_pickF rfl rfl) rfl rfl ?_ | refine SL.y (op_pickB rfl rfl rfl) rfl rfl ?_
      refine SL.y (op_move rfl) rfl rfl ?_
      first | refine SL.skip rfl rfl ?_ | refine SL.y (op_move rfl) rfl rfl ?_
      first | refine SL.skip rfl rfl ?_ | refine SL.y (op_move rfl) rfl rfl ?_
      first | refine SL.skip rfl rfl ?_ | refine SL.y (op_move rfl) rfl rfl ?_
      -- op
      refine SL.x (op_callF en18 (vs := [_, _, _]) rfl (on_spec (l := []) (.inr ⟨rfl, rfl⟩) wf_nil (by simp) (u := x) (d := day))) rfl rfl ?_
      rintro s1 _ X12 ⟨rfl, hX12, hs1⟩
      rw [show onM [] x day = 0 from rfl] at hs1
      refine SL.x (op_callF en40 (vs := [_]) rfl (empty_spec hs1)) rfl rfl ?_
      rintro _ _ X13 ⟨rfl, hX13, rfl⟩
      rw [decide_eq_true rfl]
      first | refine SL.y (op_pickT rfl rfl) rfl rfl ?_ | refine SL.y (op_pickF rfl rfl) rfl rfl ?_ | refine SL.y (op_pickB rfl rfl rfl) rfl rfl ?_
      refine SL.y (op_move rfl) rfl rfl ?_
      first | refine SL.skip rfl rfl ?_ | refine SL.y (op_move rfl) rfl rfl ?_
      first | refine SL.skip rfl rfl ?_ | refine SL.y (op_move rfl) rfl rfl ?_
      first | refine SL.skip rfl rfl ?_ | refine SL.y (op_move rfl) rfl rfl ?_
      -- op
      refine SL.x (op_callF en23 (vs := [_, _, _]) rfl ((users_spec (l := []) (.inr ⟨rfl, rfl⟩) wf_nil (by simp) (r := x) (d := day)).pubG)) rfl rfl ?_
      rintro s2 _ X14 ⟨rfl, hX14, hs2⟩
      obtain ⟨A2, c2, rfl⟩ := SliceR.form hs2
      first | refine SL.skip rfl rfl ?_ | refine SL.y (op_lenS Tryd.underlying46 rfl) rfl rfl ?_
      first | refine SL.skip rfl rfl ?_ | refine SL.y (op_move rfl) rfl rfl ?_
      -- op
      refine SL.x (op_callF en39 (vs := [_]) rfl ((entries_spec (l := []) (.inr ⟨rfl, rfl⟩) (by simp)).pubG)) rfl rfl ?_
      rintro s3 _ X15 ⟨rfl, hX15, hs3⟩
      obtain ⟨A3, c3, rfl⟩ := SliceR.form hs3
      first | refine SL.skip rfl rfl ?_ | refine SL.y (op_lenS Tryd.underlying74 rfl) rfl rfl ?_
      first | refine SL.skip rfl rfl ?_ | refine SL.y (op_addN rfl rfl (by omega)) rfl rfl ?_ | refine SL.y (op_add rfl rfl (by omega) (by omega)) rfl rfl ?_ | refine SL.y (op_addW rfl rfl) rfl rfl ?_
      first | refine SL.skip rfl rfl ?_ | refine SL.y (op_move rfl) rfl rfl ?_
      -- op
      refine SL.x (op_callF en41 (vs := [_]) rfl (bytesN_spec)) rfl rfl ?_
      rintro _ _ X16 ⟨rfl, hX16, rfl⟩
      first | refine SL.skip rfl rfl ?_ | refine SL.y (op_lenS Tryd.underlying77 rfl) rfl rfl ?_
      first | refine SL.skip rfl rfl ?_ | refine SL.y (op_addN rfl rfl (by omega)) rfl rfl ?_ | refine SL.y (op_add rfl rfl (by omega) (by omega)) rfl rfl ?_ | refine SL.y (op_addW rfl rfl) rfl rfl ?_
      first | refine SL.skip rfl rfl ?_ | refine SL.y (op_move rfl) rfl rfl ?_
      -- op
      refine SL.x (op_callF en26 (vs := [_]) rfl (elen_spec (l := []) (.inr ⟨rfl, rfl⟩))) rfl rfl ?_
      rintro _ _ X17 ⟨rfl, hX17, rfl⟩
      first | refine SL.skip rfl rfl ?_ | refine SL.y (op_addN rfl rfl (by omega)) rfl rfl ?_ | refine SL.y (op_add rfl rfl (by omega) (by omega)) rfl rfl ?_ | refine SL.y (op_addW rfl rfl) rfl rfl ?_
      first | refine SL.skip rfl rfl ?_ | refine SL.y (op_eqlT rfl rfl (by omega)) rfl rfl ?_ | refine SL.y (op_eqlF rfl rfl (by omega)) rfl rfl ?_ | refine SL.y (op_eql rfl rfl) rfl rfl ?_
      first | refine SL.y (op_pickT rfl rfl) rfl rfl ?_ | refine SL.y (op_pickF rfl rfl) rfl rfl ?_ | refine SL.y (op_pickB rfl rfl rfl) rfl rfl ?_
      refine SL.y (op_move rfl) rfl rfl ?_
      first | refine SL.skip rfl rfl ?_ | refine SL.y (op_move rfl) rfl rfl ?_
      -- op
      refine SL.x (op_callF en17 (vs := [_, _]) rfl (bequalNN)) rfl rfl ?_
      rintro _ _ X18 ⟨rfl, hX18, rfl⟩
      first | refine SL.y (op_pickT rfl rfl) rfl rfl ?_ | refine SL.y (op_pickF rfl rfl) rfl rfl ?_ | refine SL.y (op_pickB rfl rfl rfl) rfl rfl ?_
      refine SL.y (op_move rfl) rfl rfl ?_
      first | refine SL.skip rfl rfl ?_ | refine SL.y (op_move rfl) rfl rfl ?_
      first | refine SL.skip rfl rfl ?_ | refine SL.y (op_move rfl) rfl rfl ?_
      -- op
      refine SL.x (op_callF en17 (vs := [_, _]) rfl (bequalNR)) rfl rfl ?_
      rintro _ _ X19 ⟨rfl, hX19, rfl⟩
      first | refine SL.skip rfl rfl ?_ | refine SL.y (op_not rfl) rfl rfl ?_
      first | refine SL.y (op_pickT rfl rfl) rfl rfl ?_ | refine SL.y (op_pickF rfl rfl) rfl rfl ?_ | refine SL.y (op_pickB rfl rfl rfl) rfl rfl ?_
      refine SL.y (op_move rfl) rfl rfl ?_
      first | refine SL.skip rfl rfl ?_ | refine SL.y (op_move rfl) rfl rfl ?_
      -- op
      refine SL.x (op_callF en17 (vs := [_, _]) rfl (bequalRN)) rfl rfl ?_
      rintro _ _ X20 ⟨rfl, hX20, rfl⟩
      first | refine SL.skip rfl rfl ?_ | refine SL.y (op_not rfl) rfl rfl ?_
      first | refine SL.y (op_pickT rfl rfl) rfl rfl ?_ | refine SL.y (op_pickF rfl rfl) rfl rfl ?_ | refine SL.y (op_pickB rfl rfl rfl) rfl rfl ?_
      refine SL.y (op_assign rfl) rfl rfl ?_
      refine SL.nil ?_
      -- ret
      refine T.ret1 rfl (ResIs.tmp rfl) ?_
      rfl
end Go.Proofs.YtkmnlogacfkjmaaDoor
