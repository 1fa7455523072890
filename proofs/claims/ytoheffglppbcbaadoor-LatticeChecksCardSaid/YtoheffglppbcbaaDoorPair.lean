/- PAIRS OF NUMBERS: held against each other; lists of them (slices.Equal). -/
import Derived.Test.YtoheffglppbcbaaDoorRef9
namespace Go.Proofs.YtoheffglppbcbaaDoor
section
set_option maxRecDepth 100000
theorem ty57 : Ty Tryd.prog 57 true 2 := ⟨⟨_, Tryd.underlying57, rfl⟩, by kernel_rfl⟩
end
open Go.RowKit
section
variable {P : Program} {n : NM} {own : Own} {X : PMap} {env : Env}
theorem op_neqArr2 {t e t' : TypeId} {x y : Operand} {k : IntKind} {a b c d : Int} (ht : P.underlying t = some (.array 2 e)) (he : P.underlying e = some (.int k)) (hi : (P.info? e).map (·.size) = some 1) (hg : P.eqGuardType P.depth t = false)
    (hx : eev env x = some (.agg #[.int k a, .int k b])) (hy : eev env y = some (.agg #[.int k c, .int k d])) : OpY P n env own X (.binOp .neq t x y t') (.bool (!(decide (a = c) && decide (b = d)))) := by
  intro act W oper hop ha _
  obtain ⟨i, hi1, hi2⟩ := Option.map_eq_some_iff.1 hi
  have h0 : (eqGuard .neq t x y (.agg #[.int k a, .int k b]) (.agg #[.int k c, .int k d])).run P W = .ok () W := by
    simp [eqGuard, hg]
  have hin : ∀ (m : Nat) (p q : Int), (Op.equalIn (m + 1) e (.int k p) (.int k q)).run P W = .ok (p == q) W := fun m p q => by
    simp [Op.equalIn, run_underlying he]
  have hp0 : ∀ (u v : Value), (part e #[u, v] 0).run P W = .ok u W := fun u v => by
    simp [part, isAgg_row he W, TypeDesc.isRow]
  have hp1 : ∀ (u v : Value), (part e #[u, v] 1).run P W = .ok v W := fun u v => by
    simp [part, isAgg_row he W, TypeDesc.isRow]
  have h1 : ∀ m : Nat, (Op.equalIn (m + 1 + 1) t (.agg #[.int k a, .int k b]) (.agg #[.int k c, .int k d])).run P W = .ok (decide (a = c) && decide (b = d)) W := fun m => by
    rw [Op.equalIn]
    simp [run_underlying ht, sizeOf, typeInfo, hi1, hi2, hp0, hp1, hin, List.range']
    by_cases h1 : a = c <;> by_cases h2 : b = d <;> simp [h1, h2]
  have h2 : (Op.equal t (.agg #[.int k a, .int k b]) (.agg #[.int k c, .int k d])).run P W = .ok (decide (a = c) && decide (b = d)) W := h1 9998
  simp only [execOp, hop, ha.eval hx, ha.eval hy, binOp, h0, Sem.run_bind, Sem.run_pure, Result.andThen_ok, h2]
end
theorem pairC_get : ∀ (l : List (Nat × Nat)) (i : Nat) (h : i < l.length), (pairC l)[i * 2]? = some (.int .i64 (l[i].1 : Int)) ∧ (pairC l)[i * 2 + 1]? = some (.int .i64 (l[i].2 : Int))
  | p :: l, 0, _ => by simp [pairC]
  | p :: l, i + 1, h => by
    have := pairC_get l i (by simpa using h)
    have e : pairC (p :: l) = .int .i64 (p.1 : Int) :: .int .i64 (p.2 : Int) :: pairC l := rfl
    rw [e, show (i + 1) * 2 = i * 2 + 2 by omega, show i * 2 + 2 + 1 = i * 2 + 1 + 2 by omega]
    simpa using this
theorem eqPairs_spec {X : PMap} {v v' : Value} {l l' : List (Nat × Nat)} (h : SliceR X v l.length (pairC l)) (h' : SliceR X v' l'.length (pairC l')) (hs : l.length < 2147483648) : Spec Tryd.prog 28 [v, v'] X fun u _ => u = .bool (decide (l = l')) := by
  obtain ⟨A, cp, rfl⟩ := h.form
  obtain ⟨A', cp', rfl⟩ := h'.form
  by_cases hlen : l.length = l'.length
  · refine Spec.enter Tryd.func28 rfl Tryd.ntmps28 rfl ?_
    intro w0 hw0
    refine T.seq ?_
    refine T.region ?_
    refine SL.y (op_assign rfl) rfl rfl ?_
    refine SL.nil ?_
    refine T.seq ?_
    refine T.seq ?_
    refine T.region ?_
    refine SL.y (op_move rfl) rfl rfl ?_
    refine SL.y (op_lenS Tryd.underlying54 rfl) rfl rfl ?_
    refine SL.y (op_move rfl) rfl rfl ?_
    refine SL.y (op_lenS Tryd.underlying54 rfl) rfl rfl ?_
    first | refine SL.y (op_neqT rfl rfl (by omega)) rfl rfl ?_ | refine SL.y (op_neqF rfl rfl (by omega)) rfl rfl ?_ | refine SL.y (op_neq rfl rfl) rfl rfl ?_
    refine SL.nil ?_
    refine T.condF rfl ?_
    refine T.skip ?_
    refine T.seq ?_
    refine T.seq ?_
    refine T.region ?_
    refine SL.y (op_move rfl) rfl rfl ?_
    refine SL.y (op_lenS Tryd.underlying54 rfl) rfl rfl ?_
    refine SL.y (op_move (v := .int .i64 ((0 : Nat) : Int)) rfl) rfl rfl ?_
    refine SL.nil ?_
    refine T.block ?_
    -- loop live [0, 1, 4, 12, 13]
    refine T.loopW (fun m env own X' => ∃ k : Nat, m = l.length - k ∧ k ≤ l.length ∧ X.le X' ∧ l.take k = l'.take k ∧ env = [(0, .slice A l.length cp), (1, .slice A' l'.length cp'), (12, .int .i64 (l.length : Int)), (13, .int .i64 (k : Int))] ∧ own = []) l.length ⟨0, by simp, by omega, PMap.le_refl _, rfl, rfl, rfl⟩ (by repeat (first | exact Sub.nil | refine Sub.cons rfl ?_)) ?_
    rintro m _ _ X1 ⟨k, rfl, hk, hX1, hpre, rfl, rfl⟩
    rcases Nat.lt_or_ge k l.length with hkl | hkl
    · obtain ⟨b1, rfl, hb1⟩ := (h.mono hX1).blk (by omega)
      obtain ⟨b2, rfl, hb2⟩ := (h'.mono hX1).blk (by omega)
      obtain ⟨p1, p2⟩ := pairC_get l k hkl
      obtain ⟨q1, q2⟩ := pairC_get l' k (by omega)
      refine T.seq ?_
      refine T.region ?_
      first | refine SL.y (op_lssT rfl rfl (by omega)) rfl rfl ?_ | refine SL.y (op_lssF rfl rfl (by omega)) rfl rfl ?_ | refine SL.y (op_lss rfl rfl) rfl rfl ?_
      refine SL.nil ?_
      refine T.seq ?_
      refine T.condT rfl ?_
      refine T.skip ?_
      refine T.seq ?_
      refine T.block ?_
      refine T.seq ?_
      refine T.region ?_
      refine SL.y (op_move rfl) rfl rfl ?_
      refine SL.y (op_assign rfl) rfl rfl ?_
      refine SL.nil ?_
      refine T.seq ?_
      refine T.draw (by kernel_rfl) 9 [.t 0, .t 1, .t 2, .t 3, .t 4, .t 5, .t 6, .t 7, .t 8] (by kernel_rfl) ?_
      refine SD.take rfl panicBody (op_move rfl) rfl rfl ?_
      refine SD.take rfl panicBody (op_move rfl) rfl rfl ?_
      first | refine SD.take rfl panicBody (op_indexN Tryd.underlying54 ty57 rfl rfl (by omega)) rfl rfl ?_ | refine SD.take rfl panicBody (op_index Tryd.underlying54 ty57 rfl rfl (by omega) (by omega)) rfl rfl ?_
      -- to 19: op
      refine SD.take rfl panicBody (op_loadX ty57 rfl hb1 (creadR2 p1 p2 (by omega))) rfl rfl ?_
      refine SD.take rfl panicBody (op_move rfl) rfl rfl ?_
      refine SD.take rfl panicBody (op_move rfl) rfl rfl ?_
      first | refine SD.take rfl panicBody (op_indexN Tryd.underlying54 ty57 rfl rfl (by omega)) rfl rfl ?_ | refine SD.take rfl panicBody (op_index Tryd.underlying54 ty57 rfl rfl (by omega) (by omega)) rfl rfl ?_
      -- to 23: op
      refine SD.take rfl panicBody (op_loadX ty57 rfl hb2 (creadR2 q1 q2 (by omega))) rfl rfl ?_
      -- op
      refine SD.take rfl panicBody (op_neqArr2 Tryd.underlying57 Tryd.underlying3 (by kernel_rfl) (by kernel_rfl) rfl rfl) rfl rfl ?_
      refine SD.nil ?_
      show SL _ _ _ _ _ _ _ [] _ _ _
      by_cases he : l[k] = l'[k]
      · rw [show (!(decide ((l[k].1 : Int) = (l'[k].1 : Int)) && decide ((l[k].2 : Int) = (l'[k].2 : Int)))) = false by simp [he]]
        refine SL.nil ?_
        refine T.condF rfl ?_
        refine T.skip ?_
        refine T.blk ?_
        refine T.region ?_
        first | refine SL.y (op_addN (q := 1) rfl rfl (by omega)) rfl rfl ?_ | refine SL.y (op_add rfl rfl (by omega) (by omega)) rfl rfl ?_ | refine SL.y (op_addW rfl rfl) rfl rfl ?_
        refine SL.y (op_move rfl) rfl rfl ?_
        refine SL.nil ?_
        -- cut
        exact T.backW (l.length - (k + 1)) (by omega) ⟨k + 1, rfl, by omega, hX1, by rw [List.take_succ_eq_append_getElem hkl, List.take_succ_eq_append_getElem (by omega : k < l'.length), hpre, he], rfl, rfl⟩ (by repeat (first | exact Sub.nil | refine Sub.cons rfl ?_))
      · have hne : (!(decide ((l[k].1 : Int) = (l'[k].1 : Int)) && decide ((l[k].2 : Int) = (l'[k].2 : Int)))) = true := by
          simp only [Bool.not_eq_true', Bool.and_eq_false_iff, decide_eq_false_iff_not]
          rcases Decidable.em (l[k].1 = l'[k].1) with g | g
          · right; intro g2; exact he (Prod.ext g (by omega))
          · left; omega
        rw [hne]
        refine SL.nil ?_
        refine T.condT rfl ?_
        refine T.seq ?_
        refine T.region ?_
        refine SL.y (op_assign rfl) rfl rfl ?_
        refine SL.nil ?_
        -- ret
        refine T.ret1 rfl (ResIs.tmp rfl) ?_
        rw [decide_eq_false (fun e => he (by simp [e]))]
    · have e : k = l.length := by omega
      subst e
      refine T.seq ?_
      refine T.region ?_
      first | refine SL.y (op_lssT rfl rfl (by omega)) rfl rfl ?_ | refine SL.y (op_lssF rfl rfl (by omega)) rfl rfl ?_ | refine SL.y (op_lss rfl rfl) rfl rfl ?_
      refine SL.nil ?_
      refine T.seq ?_
      refine T.condF rfl ?_
      refine T.exit (T.exitCode (T.exitCut (T.exitBlk ?_)))
      refine T.seq ?_
      refine T.region ?_
      refine SL.y (op_assign rfl) rfl rfl ?_
      refine SL.nil ?_
      -- ret
      refine T.ret1 rfl (ResIs.tmp rfl) ?_
      rw [List.take_length, hlen, List.take_length] at hpre
      rw [decide_eq_true hpre]
  · refine Spec.enter Tryd.func28 rfl Tryd.ntmps28 rfl ?_
    intro w0 hw0
    refine T.seq ?_
    refine T.region ?_
    refine SL.y (op_assign rfl) rfl rfl ?_
    refine SL.nil ?_
    refine T.seq ?_
    refine T.seq ?_
    refine T.region ?_
    refine SL.y (op_move rfl) rfl rfl ?_
    refine SL.y (op_lenS Tryd.underlying54 rfl) rfl rfl ?_
    refine SL.y (op_move rfl) rfl rfl ?_
    refine SL.y (op_lenS Tryd.underlying54 rfl) rfl rfl ?_
    first | refine SL.y (op_neqT rfl rfl (by omega)) rfl rfl ?_ | refine SL.y (op_neqF rfl rfl (by omega)) rfl rfl ?_ | refine SL.y (op_neq rfl rfl) rfl rfl ?_
    refine SL.nil ?_
    refine T.condT rfl ?_
    refine T.seq ?_
    refine T.region ?_
    refine SL.y (op_assign rfl) rfl rfl ?_
    refine SL.nil ?_
    -- ret
    refine T.ret1 rfl (ResIs.tmp rfl) ?_
    rw [decide_eq_false (fun e => hlen (by rw [e]))]
end Go.Proofs.YtoheffglppbcbaaDoor
