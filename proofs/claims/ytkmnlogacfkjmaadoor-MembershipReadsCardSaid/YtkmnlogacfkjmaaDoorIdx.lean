/- slices.Index and slices.Contains at []int. -/
import Derived.Test.YtkmnlogacfkjmaaDoorRef1
namespace Go.Proofs.YtkmnlogacfkjmaaDoor
section
set_option maxRecDepth 100000
theorem en55 : Enters Tryd.prog 55 := enters_mk Tryd.func55 (by kernel_rfl) rfl
end
open Go.RowKit
/-- slices.Contains over numbers. -/
theorem index69_spec {X : PMap} {v : Value} {l : List Nat} (h : SliceR X v l.length (ints l)) (hs : l.length < 2147483648) (x : Int) : Spec Tryd.prog 55 [v, .int .i64 x] X fun u _ => ∃ r : Int, u = .int .i64 r ∧ (0 ≤ r ↔ ∃ a ∈ l, (a : Int) = x) := by
  obtain ⟨A, cp, rfl⟩ := h.form
  refine Spec.enter Tryd.func55 rfl Tryd.ntmps55 rfl ?_
  intro w0 hw0
  refine T.seq ?_
  refine T.region ?_
  refine SL.y (op_assign (v := .int .i64 ((0 : Nat) : Int)) rfl) rfl rfl ?_
  refine SL.nil ?_
  refine T.seq ?_
  refine T.seq ?_
  refine T.region ?_
  refine SL.y (op_move rfl) rfl rfl ?_
  refine SL.y (op_lenS Tryd.underlying46 rfl) rfl rfl ?_
  refine SL.y (op_move (v := .int .i64 ((0 : Nat) : Int)) rfl) rfl rfl ?_
  refine SL.nil ?_
  refine T.block ?_
  -- loop live [0, 1, 4, 7, 8]
  refine T.loopW (fun m env own X' => ∃ k : Nat, m = l.length - k ∧ k ≤ l.length ∧ X.le X' ∧ (∀ a ∈ l.take k, (a : Int) ≠ x) ∧ env = [(0, .slice A l.length cp), (1, .int .i64 x), (7, .int .i64 (l.length : Int)), (8, .int .i64 (k : Int))] ∧ own = []) l.length ⟨0, by simp, by omega, PMap.le_refl _, by simp, rfl, rfl⟩ (by repeat (first | exact Sub.nil | refine Sub.cons rfl ?_)) ?_
  rintro m _ _ X1 ⟨k, rfl, hk, hX1, hno, rfl, rfl⟩
  rcases Nat.lt_or_ge k l.length with hkl | hkl
  · obtain ⟨bo, rfl, hBo⟩ := (h.mono hX1).blk (by omega)
    have hget := ints_get l k hkl
    refine T.seq ?_
    refine T.region ?_
    first | refine SL.y (op_lssT rfl rfl (by omega)) rfl rfl ?_ | refine SL.y (op_lssF rfl rfl (by omega)) rfl rfl ?_ | refine SL.y (op_lss rfl rfl) rfl rfl ?_
    refine SL.nil ?_
    refine T.seq ?_
    refine T.condT rfl ?_
    refine T.skip ?_
    refine T.seq ?_
    refine T.block ?_
    refine T.seq ?_
    refine T.region ?_
    refine SL.y (op_move rfl) rfl rfl ?_
    refine SL.y (op_assign rfl) rfl rfl ?_
    refine SL.nil ?_
    refine T.seq ?_
    refine T.region ?_
    refine SL.y (op_move rfl) rfl rfl ?_
    refine SL.y (op_move rfl) rfl rfl ?_
    refine SL.y (op_move rfl) rfl rfl ?_
    first | refine SL.y (op_indexN Tryd.underlying46 ty3 rfl rfl (by omega)) rfl rfl ?_ | refine SL.y (op_index Tryd.underlying46 ty3 rfl rfl (by omega) (by omega)) rfl rfl ?_
    -- to 15: op
    refine SL.y (op_loadX ty3 rfl hBo (cread1 hget)) rfl rfl ?_
    by_cases he : (l[k] : Int) = x
    · skip
      first | refine SL.y (op_eqlT rfl rfl (by omega)) rfl rfl ?_ | refine SL.y (op_eqlF rfl rfl (by omega)) rfl rfl ?_ | refine SL.y (op_eql rfl rfl) rfl rfl ?_
      refine SL.nil ?_
      refine T.condT rfl ?_
      refine T.seq ?_
      refine T.region ?_
      refine SL.y (op_move rfl) rfl rfl ?_
      refine SL.y (op_assign rfl) rfl rfl ?_
      refine SL.nil ?_
      -- ret
      refine T.ret1 rfl (ResIs.tmp rfl) ?_
      exact ⟨_, rfl, fun _ => ⟨l[k], List.getElem_mem hkl, he⟩, fun _ => by omega⟩
    · have hnext : ∀ a ∈ l.take (k + 1), (a : Int) ≠ x := by
        intro a ha
        rw [List.take_succ_eq_append_getElem hkl] at ha
        rcases List.mem_append.1 ha with h1 | h1
        · exact hno a h1
        · rw [List.mem_singleton] at h1; rw [h1]; exact he
      first | refine SL.y (op_eqlT rfl rfl (by omega)) rfl rfl ?_ | refine SL.y (op_eqlF rfl rfl (by omega)) rfl rfl ?_ | refine SL.y (op_eql rfl rfl) rfl rfl ?_
      refine SL.nil ?_
      refine T.condF rfl ?_
      refine T.skip ?_
      refine T.blk ?_
      refine T.region ?_
      first | refine SL.y (op_addN (q := 1) rfl rfl (by omega)) rfl rfl ?_ | refine SL.y (op_add rfl rfl (by omega) (by omega)) rfl rfl ?_ | refine SL.y (op_addW rfl rfl) rfl rfl ?_
      refine SL.y (op_move rfl) rfl rfl ?_
      refine SL.nil ?_
      -- cut
      exact T.backW (l.length - (k + 1)) (by omega) ⟨k + 1, rfl, by omega, hX1, hnext, rfl, rfl⟩ (by repeat (first | exact Sub.nil | refine Sub.cons rfl ?_))
  · obtain rfl : k = l.length := by omega
    rw [List.take_length] at hno
    refine T.seq ?_
    refine T.region ?_
    first | refine SL.y (op_lssT rfl rfl (by omega)) rfl rfl ?_ | refine SL.y (op_lssF rfl rfl (by omega)) rfl rfl ?_ | refine SL.y (op_lss rfl rfl) rfl rfl ?_
    refine SL.nil ?_
    refine T.seq ?_
    refine T.condF rfl ?_
    refine T.exit (T.exitCode (T.exitCut (T.exitBlk ?_)))
    refine T.seq ?_
    refine T.region ?_
    refine SL.y (op_assign rfl) rfl rfl ?_
    refine SL.nil ?_
    -- ret
    refine T.ret1 rfl (ResIs.tmp rfl) ?_
    exact ⟨_, rfl, fun h => by omega, fun ⟨a, ha, he⟩ => absurd he (hno a ha)⟩
theorem contains_spec {X : PMap} {v : Value} {l : List Nat} {b : Bool} (h : SliceR X v l.length (ints l)) (hs : l.length < 2147483648) (x : Int) (hb : b = true ↔ ∃ a ∈ l, (a : Int) = x) : Spec Tryd.prog 22 [v, .int .i64 x] X fun u _ => u = .bool b := by
  obtain ⟨A, cp, rfl⟩ := h.form
  refine Spec.enter Tryd.func22 rfl Tryd.ntmps22 rfl ?_
  intro w0 hw0
  refine T.seq ?_
  refine T.region ?_
  refine SL.y (op_assign rfl) rfl rfl ?_
  refine SL.nil ?_
  refine T.seq ?_
  refine T.region ?_
  refine SL.y (op_move rfl) rfl rfl ?_
  refine SL.y (op_move rfl) rfl rfl ?_
  -- op
  refine SL.x (op_callF en55 (vs := [_, _]) rfl (index69_spec h hs x)) rfl rfl ?_
  rintro _ _ X1 ⟨rfl, hX1, r, rfl, hr⟩
  rcases Int.lt_or_le r 0 with g | g
  · skip
    first | refine SL.y (op_geqT rfl rfl (by omega)) rfl rfl ?_ | refine SL.y (op_geqF rfl rfl (by omega)) rfl rfl ?_ | refine SL.y (op_geq rfl rfl) rfl rfl ?_
    refine SL.y (op_assign rfl) rfl rfl ?_
    refine SL.nil ?_
    -- ret
    refine T.ret1 rfl (ResIs.tmp rfl) ?_
    cases b with
    | false => rfl
    | true => have := hr.2 (hb.1 rfl); omega
  · first | refine SL.y (op_geqT rfl rfl (by omega)) rfl rfl ?_ | refine SL.y (op_geqF rfl rfl (by omega)) rfl rfl ?_ | refine SL.y (op_geq rfl rfl) rfl rfl ?_
    refine SL.y (op_assign rfl) rfl rfl ?_
    refine SL.nil ?_
    -- ret
    refine T.ret1 rfl (ResIs.tmp rfl) ?_
    cases b with
    | true => rfl
    | false => have := hb.2 (hr.1 g); cases this
end Go.Proofs.YtkmnlogacfkjmaaDoor
