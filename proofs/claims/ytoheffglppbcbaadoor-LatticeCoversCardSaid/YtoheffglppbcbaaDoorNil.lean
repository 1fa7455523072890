/- LatticeNil answers true. -/
import Derived.Test.YtoheffglppbcbaaDoorCov
namespace Go.Proofs.YtoheffglppbcbaaDoor
section
set_option maxRecDepth 100000
theorem en29 : Enters Tryd.prog 29 := enters_mk Tryd.func29 (by kernel_rfl) rfl
end
open Go.RowKit
theorem coversO_spec {X : PMap} {v : Value} {c : Nat} {ms : List Nat} {l : List (Nat × Nat)} (h : LatN X v c ms l) (hsm : l.length < 1024) : SpecO Tryd.prog 27 [v] X fun u own' _ => GrowS 57 2 u (coversM l).length (pairC (coversM l)) own' := by
  refine SpecO.enter Tryd.func27 rfl Tryd.ntmps27 rfl ?_
  intro w0 hw0
  refine T.seq ?_
  refine T.region ?_
  refine SL.y (op_assign rfl) rfl rfl ?_
  refine SL.nil ?_
  refine T.seq ?_
  refine T.region ?_
  refine SL.y (op_assign rfl) rfl rfl ?_
  refine SL.nil ?_
  refine T.seq ?_
  refine T.seq ?_
  refine T.region ?_
  refine SL.y (op_move rfl) rfl rfl ?_
  -- op
  refine SL.x (op_callF en16 (vs := [_]) rfl (llen_spec h)) rfl rfl ?_
  rintro _ _ X1 ⟨rfl, hX1, rfl⟩
  refine SL.y (op_move (v := .int .i64 ((0 : Nat) : Int)) rfl) rfl rfl ?_
  refine SL.nil ?_
  refine T.block ?_
  -- loop live [0, 2, 3, 9, 10]
  refine T.loopW (fun m env own X' => ∃ (i : Nat) (s : Value), m = l.length - i ∧ i ≤ l.length ∧ X.le X' ∧ GrowS 57 2 s (covI l i).length (pairC (covI l i)) own ∧ env = [(0, v), (3, s), (9, .int .i64 (l.length : Int)), (10, .int .i64 (i : Int))]) l.length ⟨0, _, by simp, by omega, hX1, GrowS.nil, rfl⟩ (by repeat (first | exact Sub.nil | refine Sub.cons rfl ?_)) ?_
  rintro m _ G X2 ⟨i, s, rfl, hi, hX2, hG, rfl⟩
  rcases Nat.lt_or_ge i l.length with hil | hil
  · skip
    refine T.seq ?_
    refine T.region ?_
    first | refine SL.y (op_lssT rfl rfl (by omega)) rfl rfl ?_ | refine SL.y (op_lssF rfl rfl (by omega)) rfl rfl ?_ | refine SL.y (op_lss rfl rfl) rfl rfl ?_
    refine SL.nil ?_
    refine T.seq ?_
    refine T.condT rfl ?_
    refine T.skip ?_
    refine T.seq ?_
    refine T.block ?_
    refine T.seq ?_
    refine T.region ?_
    refine SL.y (op_move rfl) rfl rfl ?_
    refine SL.y (op_assign rfl) rfl rfl ?_
    refine SL.nil ?_
    refine T.seq ?_
    refine T.region ?_
    refine SL.y (op_move rfl) rfl rfl ?_
    -- op
    refine SL.x (op_callF en16 (vs := [_]) rfl (llen_spec (h.mono hX2))) rfl rfl ?_
    rintro _ _ X3 ⟨rfl, hX3, rfl⟩
    refine SL.y (op_move (v := .int .i64 ((0 : Nat) : Int)) rfl) rfl rfl ?_
    refine SL.nil ?_
    refine T.block ?_
    -- loop live [0, 2, 3, 4, 10, 14, 15]
    refine T.loopW (fun m env own X' => ∃ (j : Nat) (s : Value), m = l.length - j ∧ j ≤ l.length ∧ X.le X' ∧ GrowS 57 2 s (covI l i ++ covJ l i j).length (pairC (covI l i ++ covJ l i j)) own ∧ env = [(0, v), (3, s), (4, .int .i64 (i : Int)), (9, .int .i64 (l.length : Int)), (10, .int .i64 (i : Int)), (14, .int .i64 (l.length : Int)), (15, .int .i64 (j : Int))]) l.length ⟨0, s, by simp, by omega, hX2.trans' hX3, by simpa [covJ_zero] using hG, rfl⟩ (by repeat (first | exact Sub.nil | refine Sub.cons rfl ?_)) ?_
    rintro m _ G X4 ⟨j, s, rfl, hj, hX4, hG, rfl⟩
    rcases Nat.lt_or_ge j l.length with hjl | hjl
    · skip
      refine T.seq ?_
      refine T.region ?_
      first | refine SL.y (op_lssT rfl rfl (by omega)) rfl rfl ?_ | refine SL.y (op_lssF rfl rfl (by omega)) rfl rfl ?_ | refine SL.y (op_lss rfl rfl) rfl rfl ?_
      refine SL.nil ?_
      refine T.seq ?_
      refine T.condT rfl ?_
      refine T.skip ?_
      refine T.seq ?_
      refine T.block ?_
      refine T.seq ?_
      refine T.region ?_
      refine SL.y (op_move rfl) rfl rfl ?_
      refine SL.y (op_assign rfl) rfl rfl ?_
      refine SL.nil ?_
      refine T.seq ?_
      refine T.region ?_
      refine SL.y (op_move rfl) rfl rfl ?_
      refine SL.y (op_move rfl) rfl rfl ?_
      refine SL.y (op_move rfl) rfl rfl ?_
      -- op
      refine SL.x (op_callF en63 (vs := [_, _, _]) rfl (less_spec (h.mono hX4) (i : Int) (j : Int))) rfl rfl ?_
      rintro _ _ X5 ⟨rfl, hX5, rfl⟩
      refine SL.y (op_not rfl) rfl rfl ?_
      refine SL.y (op_assign rfl) rfl rfl ?_
      refine SL.nil ?_
      refine T.seq ?_
      refine T.seq ?_
      refine T.region ?_
      refine SL.y (op_assign (v := .int .i64 ((0 : Nat) : Int)) rfl) rfl rfl ?_
      refine SL.nil ?_
      refine T.block ?_
      -- loop live [0, 2, 3, 4, 5, 6, 7, 10, 15]
      refine T.loopW (fun m env own X' => ∃ (k : Nat), m = l.length - k ∧ k ≤ l.length ∧ X.le X' ∧ G = own ∧ env = [(0, v), (3, s), (4, .int .i64 (i : Int)), (5, .int .i64 (j : Int)), (6, .bool (betB l i j k)), (7, .int .i64 (k : Int)), (9, .int .i64 (l.length : Int)), (10, .int .i64 (i : Int)), (14, .int .i64 (l.length : Int)), (15, .int .i64 (j : Int))]) l.length ⟨0, by simp, by omega, hX4.trans' hX5, rfl, by rw [show betB l i j 0 = !lessM l (i : Int) (j : Int) by simp [betB]]⟩ (by repeat (first | exact Sub.nil | refine Sub.cons rfl ?_)) ?_
      rintro m _ _ X6 ⟨k, rfl, hk, hX6, rfl, rfl⟩
      refine T.seq ?_
      refine T.seq ?_
      refine T.region ?_
      refine SL.y (op_move rfl) rfl rfl ?_
      refine SL.y (op_move rfl) rfl rfl ?_
      -- op
      refine SL.x (op_callF en16 (vs := [_]) rfl (llen_spec (h.mono hX6))) rfl rfl ?_
      rintro _ _ X7 ⟨rfl, hX7, rfl⟩
      cases hb : betB l i j k with
      | true =>
        have hbl := betB_mono hb hk
        rcases Nat.lt_or_ge k l.length with hkl | hkl
        · skip
          first | refine SL.y (op_lssT rfl rfl (by omega)) rfl rfl ?_ | refine SL.y (op_lssF rfl rfl (by omega)) rfl rfl ?_ | refine SL.y (op_lss rfl rfl) rfl rfl ?_
          refine SL.y (op_move rfl) rfl rfl ?_
          first | refine SL.skip rfl rfl ?_ | refine SL.y (op_move rfl) rfl rfl ?_
          first | refine SL.skip rfl rfl ?_ | refine SL.y (op_not rfl) rfl rfl ?_
          first | refine SL.y (op_pickT rfl rfl) rfl rfl ?_ | refine SL.y (op_pickF rfl rfl) rfl rfl ?_ | refine SL.y (op_pickB rfl rfl rfl) rfl rfl ?_
          refine SL.nil ?_
          refine T.condF rfl ?_
          refine T.exit (T.exitCode (T.exitCut (T.exitBlk ?_)))
          refine T.seq ?_
          refine T.region ?_
          refine SL.y (op_move rfl) rfl rfl ?_
          refine SL.y (op_not rfl) rfl rfl ?_
          refine SL.nil ?_
          refine T.condF rfl ?_
          refine T.skip ?_
          refine T.blk ?_
          refine T.region ?_
          first | refine SL.y (op_addN (q := 1) rfl rfl (by omega)) rfl rfl ?_ | refine SL.y (op_add rfl rfl (by omega) (by omega)) rfl rfl ?_ | refine SL.y (op_addW rfl rfl) rfl rfl ?_
          refine SL.y (op_move rfl) rfl rfl ?_
          refine SL.nil ?_
          -- cut
          exact T.backW (l.length - (j + 1)) (by omega) ⟨j + 1, s, rfl, by omega, hX6.trans' hX7, by rw [covJ_succ, hbl]; simpa using hG, rfl⟩ (by repeat (first | exact Sub.nil | refine Sub.cons rfl ?_))
        · first | refine SL.y (op_lssT rfl rfl (by omega)) rfl rfl ?_ | refine SL.y (op_lssF rfl rfl (by omega)) rfl rfl ?_ | refine SL.y (op_lss rfl rfl) rfl rfl ?_
          refine SL.y (op_move rfl) rfl rfl ?_
          first | refine SL.skip rfl rfl ?_ | refine SL.y (op_move rfl) rfl rfl ?_
          first | refine SL.skip rfl rfl ?_ | refine SL.y (op_not rfl) rfl rfl ?_
          first | refine SL.y (op_pickT rfl rfl) rfl rfl ?_ | refine SL.y (op_pickF rfl rfl) rfl rfl ?_ | refine SL.y (op_pickB rfl rfl rfl) rfl rfl ?_
          refine SL.nil ?_
          refine T.condF rfl ?_
          refine T.exit (T.exitCode (T.exitCut (T.exitBlk ?_)))
          refine T.seq ?_
          refine T.region ?_
          refine SL.y (op_move rfl) rfl rfl ?_
          refine SL.y (op_not rfl) rfl rfl ?_
          refine SL.nil ?_
          refine T.condF rfl ?_
          refine T.skip ?_
          refine T.blk ?_
          refine T.region ?_
          first | refine SL.y (op_addN (q := 1) rfl rfl (by omega)) rfl rfl ?_ | refine SL.y (op_add rfl rfl (by omega) (by omega)) rfl rfl ?_ | refine SL.y (op_addW rfl rfl) rfl rfl ?_
          refine SL.y (op_move rfl) rfl rfl ?_
          refine SL.nil ?_
          -- cut
          exact T.backW (l.length - (j + 1)) (by omega) ⟨j + 1, s, rfl, by omega, hX6.trans' hX7, by rw [covJ_succ, hbl]; simpa using hG, rfl⟩ (by repeat (first | exact Sub.nil | refine Sub.cons rfl ?_))
      | false =>
        rcases Nat.lt_or_ge k l.length with hkl | hkl
        · skip
          first | refine SL.y (op_lssT rfl rfl (by omega)) rfl rfl ?_ | refine SL.y (op_lssF rfl rfl (by omega)) rfl rfl ?_ | refine SL.y (op_lss rfl rfl) rfl rfl ?_
          refine SL.y (op_move rfl) rfl rfl ?_
          first | refine SL.skip rfl rfl ?_ | refine SL.y (op_move rfl) rfl rfl ?_
          first | refine SL.skip rfl rfl ?_ | refine SL.y (op_not rfl) rfl rfl ?_
          first | refine SL.y (op_pickT rfl rfl) rfl rfl ?_ | refine SL.y (op_pickF rfl rfl) rfl rfl ?_ | refine SL.y (op_pickB rfl rfl rfl) rfl rfl ?_
          refine SL.nil ?_
          refine T.condT rfl ?_
          refine T.skip ?_
          refine T.seq ?_
          refine T.block ?_
          refine T.region ?_
          refine SL.y (op_move rfl) rfl rfl ?_
          refine SL.y (op_move rfl) rfl rfl ?_
          refine SL.y (op_move rfl) rfl rfl ?_
          -- op
          refine SL.x (op_callF en63 (vs := [_, _, _]) rfl (less_spec ((h.mono hX6).mono hX7) (i : Int) (k : Int))) rfl rfl ?_
          rintro _ _ X8 ⟨rfl, hX8, rfl⟩
          cases h1 : lessM l (i : Int) (k : Int) with
          | true =>
            refine SL.y (op_move rfl) rfl rfl ?_
            first | refine SL.skip rfl rfl ?_ | refine SL.y (op_move rfl) rfl rfl ?_
            first | refine SL.skip rfl rfl ?_ | refine SL.y (op_move rfl) rfl rfl ?_
            first | refine SL.skip rfl rfl ?_ | refine SL.y (op_move rfl) rfl rfl ?_
            -- op
            refine SL.x (op_callF en63 (vs := [_, _, _]) rfl (less_spec (((h.mono hX6).mono hX7).mono hX8) (k : Int) (j : Int))) rfl rfl ?_
            rintro _ _ X9 ⟨rfl, hX9, rfl⟩
            first | refine SL.y (op_pickT rfl rfl) rfl rfl ?_ | refine SL.y (op_pickF rfl rfl) rfl rfl ?_ | refine SL.y (op_pickB rfl rfl rfl) rfl rfl ?_
            refine SL.y (op_assign rfl) rfl rfl ?_
            refine SL.nil ?_
            refine T.blk ?_
            refine T.region ?_
            refine SL.y (op_move rfl) rfl rfl ?_
            first | refine SL.y (op_addN (q := 1) rfl rfl (by omega)) rfl rfl ?_ | refine SL.y (op_add rfl rfl (by omega) (by omega)) rfl rfl ?_ | refine SL.y (op_addW rfl rfl) rfl rfl ?_
            refine SL.y (op_assign rfl) rfl rfl ?_
            refine SL.nil ?_
            -- cut
            exact T.backW (l.length - (k + 1)) (by omega) ⟨k + 1, rfl, by omega, ((hX6.trans' hX7).trans' hX8).trans' hX9, rfl, by rw [betB_succ, hb, h1]⟩ (by repeat (first | exact Sub.nil | refine Sub.cons rfl ?_))
          | false =>
            refine SL.y (op_move rfl) rfl rfl ?_
            first | refine SL.skip rfl rfl ?_ | refine SL.y (op_move rfl) rfl rfl ?_
            first | refine SL.skip rfl rfl ?_ | refine SL.y (op_move rfl) rfl rfl ?_
            first | refine SL.skip rfl rfl ?_ | refine SL.y (op_move rfl) rfl rfl ?_
            -- op
            refine SL.skip rfl rfl ?_
            first | refine SL.y (op_pickT rfl rfl) rfl rfl ?_ | refine SL.y (op_pickF rfl rfl) rfl rfl ?_ | refine SL.y (op_pickB rfl rfl rfl) rfl rfl ?_
            refine SL.y (op_assign rfl) rfl rfl ?_
            refine SL.nil ?_
            refine T.blk ?_
            refine T.region ?_
            refine SL.y (op_move rfl) rfl rfl ?_
            first | refine SL.y (op_addN (q := 1) rfl rfl (by omega)) rfl rfl ?_ | refine SL.y (op_add rfl rfl (by omega) (by omega)) rfl rfl ?_ | refine SL.y (op_addW rfl rfl) rfl rfl ?_
            refine SL.y (op_assign rfl) rfl rfl ?_
            refine SL.nil ?_
            -- cut
            exact T.backW (l.length - (k + 1)) (by omega) ⟨k + 1, rfl, by omega, (hX6.trans' hX7).trans' hX8, rfl, by rw [betB_succ, hb, h1]⟩ (by repeat (first | exact Sub.nil | refine Sub.cons rfl ?_))
        · obtain rfl : k = l.length := by omega
          have c1 := covI_len l i
          have c2 := covJ_len l i j
          have c3 : i * l.length ≤ l.length * l.length := Nat.mul_le_mul_right _ hi
          have c4 : l.length * l.length ≤ 1024 * 1024 := Nat.mul_le_mul (by omega) (by omega)
          first | refine SL.y (op_lssT rfl rfl (by omega)) rfl rfl ?_ | refine SL.y (op_lssF rfl rfl (by omega)) rfl rfl ?_ | refine SL.y (op_lss rfl rfl) rfl rfl ?_
          refine SL.y (op_move rfl) rfl rfl ?_
          first | refine SL.skip rfl rfl ?_ | refine SL.y (op_move rfl) rfl rfl ?_
          first | refine SL.skip rfl rfl ?_ | refine SL.y (op_not rfl) rfl rfl ?_
          first | refine SL.y (op_pickT rfl rfl) rfl rfl ?_ | refine SL.y (op_pickF rfl rfl) rfl rfl ?_ | refine SL.y (op_pickB rfl rfl rfl) rfl rfl ?_
          refine SL.nil ?_
          refine T.condF rfl ?_
          refine T.exit (T.exitCode (T.exitCut (T.exitBlk ?_)))
          refine T.seq ?_
          refine T.region ?_
          refine SL.y (op_move rfl) rfl rfl ?_
          refine SL.y (op_not rfl) rfl rfl ?_
          refine SL.nil ?_
          refine T.condT rfl ?_
          refine T.region ?_
          refine SL.y (op_move rfl) rfl rfl ?_
          refine SL.y (op_move rfl) rfl rfl ?_
          refine SL.y (op_move rfl) rfl rfl ?_
          refine SL.y (op_buildA (size := 1) Tryd.underlying57 z57 (by kernel_rfl) (qs := [(0, _), (1, _)]) rfl rfl rfl) rfl rfl ?_
          refine SL.x (op_buildSlice Tryd.underlying54 bs57 (qs := [(0, _)]) rfl rfl rfl rfl rfl) rfl rfl ?_
          rintro _ _ _ ⟨B49, rfl, rfl, rfl⟩
          -- op
          refine SL.x (op_appendG (own0 := []) sl54 rfl hG rfl rfl rfl (by (have : maxLen = 9223372036854775807 := rfl); rw [List.length_append]; omega) (by rw [List.length_append]; omega)) rfl rfl ?_
          rintro s' _ _ ⟨G', rfl, rfl, hG'⟩
          refine SL.y (op_assign rfl) rfl rfl ?_
          refine SL.nil ?_
          refine T.blk ?_
          refine T.region ?_
          first | refine SL.y (op_addN (q := 1) rfl rfl (by omega)) rfl rfl ?_ | refine SL.y (op_add rfl rfl (by omega) (by omega)) rfl rfl ?_ | refine SL.y (op_addW rfl rfl) rfl rfl ?_
          refine SL.y (op_move rfl) rfl rfl ?_
          refine SL.nil ?_
          -- cut
          exact T.backW (l.length - (j + 1)) (by omega) ⟨j + 1, s', rfl, by omega, hX6.trans' hX7, by rw [covJ_succ, hb, ← List.append_assoc, pairC_append _ (if false = true then _ else _)]; simpa [pairC, csets, vcells, Nat.add_assoc] using hG', rfl⟩ (by repeat (first | exact Sub.nil | refine Sub.cons rfl ?_))
    · obtain rfl : j = l.length := by omega
      refine T.seq ?_
      refine T.region ?_
      first | refine SL.y (op_lssT rfl rfl (by omega)) rfl rfl ?_ | refine SL.y (op_lssF rfl rfl (by omega)) rfl rfl ?_ | refine SL.y (op_lss rfl rfl) rfl rfl ?_
      refine SL.nil ?_
      refine T.seq ?_
      refine T.condF rfl ?_
      refine T.exit (T.exitCode (T.exitCut (T.exitBlk ?_)))
      refine T.blk ?_
      refine T.region ?_
      first | refine SL.y (op_addN (q := 1) rfl rfl (by omega)) rfl rfl ?_ | refine SL.y (op_add rfl rfl (by omega) (by omega)) rfl rfl ?_ | refine SL.y (op_addW rfl rfl) rfl rfl ?_
      refine SL.y (op_move rfl) rfl rfl ?_
      refine SL.nil ?_
      -- cut
      exact T.backW (l.length - (i + 1)) (by omega) ⟨i + 1, s, rfl, by omega, hX4, by rw [covI_succ]; exact hG, rfl⟩ (by repeat (first | exact Sub.nil | refine Sub.cons rfl ?_))
  · obtain rfl : i = l.length := by omega
    refine T.seq ?_
    refine T.region ?_
    first | refine SL.y (op_lssT rfl rfl (by omega)) rfl rfl ?_ | refine SL.y (op_lssF rfl rfl (by omega)) rfl rfl ?_ | refine SL.y (op_lss rfl rfl) rfl rfl ?_
    refine SL.nil ?_
    refine T.seq ?_
    refine T.condF rfl ?_
    refine T.exit (T.exitCode (T.exitCut (T.exitBlk ?_)))
    refine T.seq ?_
    refine T.region ?_
    refine SL.y (op_move rfl) rfl rfl ?_
    refine SL.y (op_assign rfl) rfl rfl ?_
    refine SL.nil ?_
    -- ret
    refine T.retO1 rfl (ResIs.tmp rfl) ?_
    exact hG
theorem idx_nil (cols : Nat) : idxM [] cols = none := rfl
theorem join_nil (i j : Int) : joinM [] i j = none := by rw [joinM, bounds_out (by simp)]; rfl
theorem meet_nil (c : Nat) (ms : List Nat) (i j : Int) : meetM c ms [] i j = none := by rw [meetM, bounds_out (by simp)]; rfl
theorem leq_nil (i j : Int) : leqM [] i j = false := by
  rw [leqM, bounds_out (by simp)]; rfl
section
variable {X : PMap} {c : Nat} {ms : List Nat}
theorem top_nil : Spec Tryd.prog 39 [.pointer none] X fun u _ => u = .tuple #[.int .i64 0, .bool false] :=
  (top_spec (c := 0) (ms := []) (.inr ⟨rfl, rfl⟩)).mono fun _ _ _ hv => by rw [hv]; rfl
theorem bottom_nil : Spec Tryd.prog 40 [.pointer none] X fun u _ => u = .tuple #[.int .i64 0, .bool false] :=
  (bottom_spec (c := 0) (ms := []) (.inr ⟨rfl, rfl⟩)).mono fun _ _ _ hv => by rw [hv]; rfl
theorem row_nil (i : Int) : Spec Tryd.prog 41 [.pointer none, .int .i64 i] X fun u _ => u = .tuple #[.int .i64 0, .bool false] :=
  (lrow0_spec i).mono fun _ _ _ hv => by rw [hv]; rfl
theorem col_nil (i : Int) : Spec Tryd.prog 42 [.pointer none, .int .i64 i] X fun u _ => u = .tuple #[.int .i64 0, .bool false] :=
  (lcol0_spec i).mono fun _ _ _ hv => by rw [hv]; rfl
theorem covers_nil : Spec Tryd.prog 27 [.pointer none] X fun u _ => ∃ A cp, u = .slice A 0 cp :=
  (covers_spec (c := 0) (ms := []) (l := []) (.inr ⟨rfl, rfl⟩) (by decide)).mono fun v X' _ hv => by
    have h : SliceR X' v 0 [] := hv
    exact h.form
theorem len_nil : Spec Tryd.prog 16 [.pointer none] X fun u _ => u = .int .i64 0 :=
  (llen_spec (c := 0) (ms := []) (l := []) (.inr ⟨rfl, rfl⟩)).mono fun _ _ _ hv => by rw [hv]; rfl
end
theorem nil_spec {X : PMap} (hT : Tab X) {s : Value} {bs : List Nat} (R C : Nat) (hR : R < 256) (hC : C < 256) (h : BytesR X s bs) (i j : Int) :
    Spec Tryd.prog 8 [.agg #[.int .u8 (R : Int), .int .u8 (C : Int), s], .int .i64 i, .int .i64 j] X fun u _ => u = .bool true := by
  obtain ⟨A, cp, rfl⟩ := h.form
  have hc6 : C % 6 < 6 := Nat.mod_lt _ (by omega)
  have hr6 : R % 6 < 6 := Nat.mod_lt _ (by omega)
  have hlen := rawRows_len bs (R % 6) (C % 6)
  have hmk := fun (X : PMap) (hT : Tab X) (h : BytesR X (.slice A bs.length cp) bs) => make_spec hT R C hR hC h
  have hms := rawRows_lt bs (R % 6) (C % 6)
  generalize rawRows bs (R % 6) (C % 6) = ms at *
  generalize C % 6 = c at *
  have hr : ms.length < 64 := by omega
  have hal := allR_len (c := c) (ms := ms) hr hc6
  have hal2 := allR_lenC (ms := ms) hr hc6
  have hcl := coversM_len (allR c ms) hal
  have hceq := covers_eq (ms := ms) hr hc6
  have hout : ¬ (0 ≤ i ∧ i < (([] : List (Nat × Nat)).length : Int)) := by simp
  refine Spec.enter Tryd.func8 rfl Tryd.ntmps8 rfl ?_
  intro w0 hw0
  refine T.seq ?_
  refine T.region ?_
  refine SL.x (op_box rfl) rfl rfl ?_
  rintro _ _ _ ⟨B3, rfl, rfl, rfl⟩
  refine SL.y (op_assign rfl) rfl rfl ?_
  refine SL.nil ?_
  refine T.seq ?_
  refine T.seq ?_
  refine T.region ?_
  -- op
  refine SL.x (op_callF en13 (vs := []) rfl (awake_spec hT)) rfl rfl ?_
  rintro _ _ X1 ⟨rfl, hX1, rfl⟩
  refine SL.y (op_not rfl) rfl rfl ?_
  refine SL.nil ?_
  refine T.condF rfl ?_
  refine T.skip ?_
  refine T.seq ?_
  refine T.region ?_
  first | refine SL.y (op_load ty24 rfl (by repeat (first | exact AtO.here | apply AtO.there)) rfl) rfl rfl ?_ | refine SL.y (op_loadX ty24 rfl (by assumption) rfl) rfl rfl ?_
  -- op
  refine SL.x (op_callF en14 (vs := [_]) rfl (hmk _ (hT.mono hX1) (h.mono hX1))) rfl rfl ?_
  rintro _ _ X2 ⟨rfl, hX2, pm, lat, t, rfl, hM, hL, hC⟩
  obtain ⟨bm, rfl⟩ := hM.ptr
  obtain ⟨bl, rfl⟩ := hL.ptr
  obtain ⟨At, cpt, rfl⟩ := hC.1.form
  have hT2 := (hT.mono hX1).mono hX2
  have hN : LatN X2 (.pointer (some ⟨bl, 0, none⟩)) c ms (allR c ms) := .inl hL
  refine SL.y (op_move rfl) rfl rfl ?_
  refine SL.y (op_extract rfl rfl) rfl rfl ?_
  refine SL.y (op_extract rfl rfl) rfl rfl ?_
  refine SL.y (op_extract rfl rfl) rfl rfl ?_
  refine SL.y (op_assign rfl) rfl rfl ?_
  refine SL.y (op_assign rfl) rfl rfl ?_
  refine SL.y (op_assign rfl) rfl rfl ?_
  refine SL.nil ?_
  refine T.seq ?_
  refine T.seq ?_
  refine T.region ?_
  refine SL.y (op_move rfl) rfl rfl ?_
  refine SL.y (op_eqlNil Tryd.underlying28 rfl rfl) rfl rfl ?_
  refine SL.nil ?_
  refine T.condF rfl ?_
  refine T.skip ?_
  refine T.seq ?_
  refine T.region ?_
  refine SL.y (op_move rfl) rfl rfl ?_
  -- op
  refine SL.x (op_callO en27 (vs := [_]) rfl (coversO_spec hN (by omega))) rfl rfl ?_
  rintro s3 _ X3 ⟨G, rfl, hX3, hG⟩
  obtain ⟨Ac, cc, rfl⟩ := hG.form
  refine SL.y (op_assign rfl) rfl rfl ?_
  refine SL.nil ?_
  refine T.seq ?_
  refine T.seq ?_
  refine T.region ?_
  refine SL.y (op_move rfl) rfl rfl ?_
  refine SL.y (op_lenS Tryd.underlying54 rfl) rfl rfl ?_
  refine SL.y (op_move (v := .int .i64 ((0 : Nat) : Int)) rfl) rfl rfl ?_
  refine SL.nil ?_
  refine T.block ?_
  -- loop live [1, 2, 6, 8, 9, 10, 42, 43]
  refine T.perm List.perm_append_comm ?_
  refine T.drop B3 (by repeat (first | exact AtO.here | apply AtO.there)) ?_
  refine T.loopW (fun m env own X' => ∃ (k : Nat) (cs : List Value), m = (coversM (allR c ms)).length - k ∧ k ≤ (coversM (allR c ms)).length ∧ X2.le X' ∧ GrowS 57 2 (.slice Ac (coversM (allR c ms)).length cc) (coversM (allR c ms)).length cs own ∧ env = [(1, .int .i64 i), (2, .int .i64 j), (8, .pointer (some ⟨bl, 0, none⟩)), (9, .slice At (allR c ms).length cpt), (10, .slice Ac (coversM (allR c ms)).length cc), (42, .int .i64 ((coversM (allR c ms)).length : Int)), (43, .int .i64 (k : Int))]) (coversM (allR c ms)).length ⟨0, _, by simp, by omega, hX3, hG, rfl⟩ (by repeat (first | exact Sub.nil | refine Sub.cons rfl ?_)) ?_
  rintro m _ _ X4 ⟨k, cs, rfl, hk, hX4, hG4, rfl⟩
  rcases Nat.lt_or_ge k (coversM (allR c ms)).length with hkl | hkl
  · rcases hG4 with ⟨g1, _⟩ | ⟨bG, capG, ge, rfl, hg1, hg2, hg3⟩
    · omega
    · simp only [Value.slice.injEq, true_and] at ge
      obtain ⟨rfl, rfl⟩ := ge
      refine T.seq ?_
      refine T.region ?_
      first | refine SL.y (op_lssT rfl rfl (by omega)) rfl rfl ?_ | refine SL.y (op_lssF rfl rfl (by omega)) rfl rfl ?_ | refine SL.y (op_lss rfl rfl) rfl rfl ?_
      refine SL.nil ?_
      refine T.seq ?_
      refine T.condT rfl ?_
      refine T.skip ?_
      refine T.seq ?_
      refine T.block ?_
      refine T.seq ?_
      refine T.region ?_
      refine SL.y (op_move rfl) rfl rfl ?_
      refine SL.y (op_assign rfl) rfl rfl ?_
      refine SL.nil ?_
      refine T.region ?_
      refine SL.y (op_move rfl) rfl rfl ?_
      refine SL.y (op_move rfl) rfl rfl ?_
      refine SL.y (op_buildA (size := 1) Tryd.underlying57 z57 (by kernel_rfl) (qs := [(0, _), (1, _)]) rfl rfl rfl) rfl rfl ?_
      first | refine SL.y (op_indexN Tryd.underlying54 ty57 rfl rfl (by omega)) rfl rfl ?_ | refine SL.y (op_index Tryd.underlying54 ty57 rfl rfl (by omega) (by omega)) rfl rfl ?_
      -- to store: op
      refine SL.x (op_store ty57 rfl rfl (by repeat (first | exact AtO.here | apply AtO.there)) rfl rfl (Nat.ble_eq_true_of_le (by simp; omega))) rfl rfl ?_
      rintro _ _ _ ⟨rfl, rfl⟩
      refine SL.nil ?_
      refine T.blk ?_
      refine T.region ?_
      first | refine SL.y (op_addN (q := 1) rfl rfl (by omega)) rfl rfl ?_ | refine SL.y (op_add rfl rfl (by omega) (by omega)) rfl rfl ?_ | refine SL.y (op_addW rfl rfl) rfl rfl ?_
      refine SL.y (op_move rfl) rfl rfl ?_
      refine SL.nil ?_
      -- cut
      exact T.backW ((coversM (allR c ms)).length - (k + 1)) (by omega) ⟨k + 1, _, rfl, by omega, hX4, .inr ⟨bG, cc, rfl, rfl, hg1, hg2, by rw [csets_length]; exact hg3⟩, rfl⟩ (by repeat (first | exact Sub.nil | refine Sub.cons rfl ?_))
  · refine T.seq ?_
    refine T.region ?_
    first | refine SL.y (op_lssT rfl rfl (by omega)) rfl rfl ?_ | refine SL.y (op_lssF rfl rfl (by omega)) rfl rfl ?_ | refine SL.y (op_lss rfl rfl) rfl rfl ?_
    refine SL.nil ?_
    refine T.seq ?_
    refine T.condF rfl ?_
    refine T.exit (T.exitCode (T.exitCut (T.exitBlk ?_)))
    refine T.seq ?_
    refine T.region ?_
    refine SL.y (op_assign rfl) rfl rfl ?_
    refine SL.nil ?_
    refine T.seq ?_
    refine T.region ?_
    refine SL.y (op_move rfl) rfl rfl ?_
    refine SL.y (op_move rfl) rfl rfl ?_
    -- op
    have hT4 := hT2.mono hX4
    refine SL.x (op_callF en25 (vs := [_, _]) rfl (at_out (c := c) (ms := ms) (l := []) (.inr ⟨rfl, rfl⟩) hout)) rfl rfl ?_
    rintro _ _ X5 ⟨rfl, hX5, x, y, rfl, hx, hy⟩
    obtain ⟨Ax, lx, cx, hxe⟩ := hx.form
    obtain ⟨Ay, ly, cy, hye⟩ := hy.form
    obtain rfl : x = .slice Ax lx cx := by simpa using hxe
    obtain rfl : y = .slice Ay ly cy := by simpa using hye
    refine SL.y (op_move rfl) rfl rfl ?_
    refine SL.y (op_extract rfl rfl) rfl rfl ?_
    refine SL.y (op_extract rfl rfl) rfl rfl ?_
    refine SL.x (op_alloc z49) rfl rfl ?_
    rintro _ _ _ ⟨B13, rfl, rfl, rfl⟩
    refine SL.x (op_store ty49 rfl rfl (by repeat (first | exact AtO.here | apply AtO.there)) rfl rfl rfl) rfl rfl ?_
    rintro _ _ _ ⟨rfl, rfl⟩
    refine SL.y (op_assign rfl) rfl rfl ?_
    refine SL.nil ?_
    refine T.seq ?_
    refine T.region ?_
    refine SL.y (op_move rfl) rfl rfl ?_
    refine SL.y (op_build st47 (qs := []) rfl rfl) rfl rfl ?_
    -- op
    refine SL.x (op_callF en34 (vs := [_, _]) rfl (lindex_val (c := c) (ms := ms) (l := []) (.inr ⟨rfl, rfl⟩) SetR.zero (idx_nil 0))) rfl rfl ?_
    rintro _ _ X6 ⟨rfl, hX6, rfl⟩
    refine SL.y (op_move rfl) rfl rfl ?_
    refine SL.y (op_extract rfl rfl) rfl rfl ?_
    refine SL.y (op_extract rfl rfl) rfl rfl ?_
    refine SL.y (op_assign rfl) rfl rfl ?_
    refine SL.y (op_assign rfl) rfl rfl ?_
    refine SL.nil ?_
    refine T.seq ?_
    refine T.region ?_
    refine SL.y (op_move rfl) rfl rfl ?_
    refine SL.y (op_move rfl) rfl rfl ?_
    refine SL.y (op_move rfl) rfl rfl ?_
    -- op
    refine SL.x (op_callF en17 (vs := [_, _, _]) rfl (join_none (c := c) (ms := ms) (l := []) (.inr ⟨rfl, rfl⟩) (join_nil i j))) rfl rfl ?_
    rintro _ _ X7 ⟨rfl, hX7, rfl⟩
    refine SL.y (op_move rfl) rfl rfl ?_
    refine SL.y (op_extract rfl rfl) rfl rfl ?_
    refine SL.y (op_extract rfl rfl) rfl rfl ?_
    refine SL.y (op_assign rfl) rfl rfl ?_
    refine SL.y (op_assign rfl) rfl rfl ?_
    refine SL.nil ?_
    refine T.seq ?_
    refine T.region ?_
    refine SL.y (op_move rfl) rfl rfl ?_
    refine SL.y (op_move rfl) rfl rfl ?_
    refine SL.y (op_move rfl) rfl rfl ?_
    -- op
    refine SL.x (op_callF en18 (vs := [_, _, _]) rfl (meet_none (c := c) (ms := ms) (l := []) ((hT4.mono hX5).mono (hX6.trans' hX7)) (.inr ⟨rfl, rfl⟩) (meet_nil c ms i j))) rfl rfl ?_
    rintro _ _ X8 ⟨rfl, hX8, rfl⟩
    refine SL.y (op_move rfl) rfl rfl ?_
    refine SL.y (op_extract rfl rfl) rfl rfl ?_
    refine SL.y (op_extract rfl rfl) rfl rfl ?_
    refine SL.y (op_assign rfl) rfl rfl ?_
    refine SL.y (op_assign rfl) rfl rfl ?_
    refine SL.nil ?_
    refine T.seq ?_
    refine T.region ?_
    refine SL.y (op_move rfl) rfl rfl ?_
    -- op
    refine SL.x (op_callF en39 (vs := [_]) rfl (top_nil)) rfl rfl ?_
    rintro _ _ X9 ⟨rfl, hX9, rfl⟩
    refine SL.y (op_move rfl) rfl rfl ?_
    refine SL.y (op_extract rfl rfl) rfl rfl ?_
    refine SL.y (op_extract rfl rfl) rfl rfl ?_
    refine SL.y (op_assign rfl) rfl rfl ?_
    refine SL.y (op_assign rfl) rfl rfl ?_
    refine SL.nil ?_
    refine T.seq ?_
    refine T.region ?_
    refine SL.y (op_move rfl) rfl rfl ?_
    -- op
    refine SL.x (op_callF en40 (vs := [_]) rfl (bottom_nil)) rfl rfl ?_
    rintro _ _ X10 ⟨rfl, hX10, rfl⟩
    refine SL.y (op_move rfl) rfl rfl ?_
    refine SL.y (op_extract rfl rfl) rfl rfl ?_
    refine SL.y (op_extract rfl rfl) rfl rfl ?_
    refine SL.y (op_assign rfl) rfl rfl ?_
    refine SL.y (op_assign rfl) rfl rfl ?_
    refine SL.nil ?_
    refine T.seq ?_
    refine T.region ?_
    refine SL.y (op_move rfl) rfl rfl ?_
    refine SL.y (op_move rfl) rfl rfl ?_
    -- op
    refine SL.x (op_callF en41 (vs := [_, _]) rfl (row_nil i)) rfl rfl ?_
    rintro _ _ X11 ⟨rfl, hX11, rfl⟩
    refine SL.y (op_move rfl) rfl rfl ?_
    refine SL.y (op_extract rfl rfl) rfl rfl ?_
    refine SL.y (op_extract rfl rfl) rfl rfl ?_
    refine SL.y (op_assign rfl) rfl rfl ?_
    refine SL.y (op_assign rfl) rfl rfl ?_
    refine SL.nil ?_
    refine T.seq ?_
    refine T.region ?_
    refine SL.y (op_move rfl) rfl rfl ?_
    refine SL.y (op_move rfl) rfl rfl ?_
    -- op
    refine SL.x (op_callF en42 (vs := [_, _]) rfl (col_nil j)) rfl rfl ?_
    rintro _ _ X12 ⟨rfl, hX12, rfl⟩
    have hZ := ((((((hX4.trans' hX5).trans' hX6).trans' hX7).trans' hX8).trans' hX9).trans' hX10).trans' (hX11.trans' hX12)
    refine SL.y (op_move rfl) rfl rfl ?_
    refine SL.y (op_extract rfl rfl) rfl rfl ?_
    refine SL.y (op_extract rfl rfl) rfl rfl ?_
    refine SL.y (op_assign rfl) rfl rfl ?_
    refine SL.y (op_assign rfl) rfl rfl ?_
    refine SL.nil ?_
    refine T.seq ?_
    refine T.region ?_
    refine SL.y (op_move rfl) rfl rfl ?_
    -- op
    refine SL.x (op_callF en27 (vs := [_]) rfl (covers_spec (hN.mono hZ) (by omega))) rfl rfl ?_
    rintro s13 _ X13 ⟨rfl, hX13, hc13⟩
    refine SL.y (op_move rfl) rfl rfl ?_
    -- op
    refine SL.x (op_callF en29 (vs := [_]) rfl (covers46_spec ((hC.mono hZ).mono hX13))) rfl rfl ?_
    rintro s14 _ X14 ⟨rfl, hX14, hc14⟩
    -- op
    refine SL.x (op_callF en28 (vs := [_, _]) rfl (eqPairs_spec (hc13.mono hX14) hc14 (by omega))) rfl rfl ?_
    rintro _ _ X15 ⟨rfl, hX15, rfl⟩
    rw [decide_eq_true hceq]
    refine SL.y (op_move rfl) rfl rfl ?_
    first | refine SL.skip rfl rfl ?_ | refine SL.y (op_move rfl) rfl rfl ?_
    -- op
    refine SL.x (op_callF en16 (vs := [_]) rfl (len_nil)) rfl rfl ?_
    rintro _ _ X16 ⟨rfl, hX16, rfl⟩
    first | refine SL.skip rfl rfl ?_ | refine SL.y (op_eqlT rfl rfl (by omega)) rfl rfl ?_ | refine SL.y (op_eqlF rfl rfl (by omega)) rfl rfl ?_ | refine SL.y (op_eql rfl rfl) rfl rfl ?_
    first | refine SL.y (op_pickT rfl rfl) rfl rfl ?_ | refine SL.y (op_pickF rfl rfl) rfl rfl ?_ | refine SL.y (op_pickB rfl rfl rfl) rfl rfl ?_
    refine SL.y (op_move rfl) rfl rfl ?_
    first | refine SL.skip rfl rfl ?_ | refine SL.y (op_move rfl) rfl rfl ?_
    first | refine SL.skip rfl rfl ?_ | refine SL.y (op_not rfl) rfl rfl ?_
    first | refine SL.y (op_pickT rfl rfl) rfl rfl ?_ | refine SL.y (op_pickF rfl rfl) rfl rfl ?_ | refine SL.y (op_pickB rfl rfl rfl) rfl rfl ?_
    refine SL.y (op_move rfl) rfl rfl ?_
    first | refine SL.skip rfl rfl ?_ | refine SL.y (op_move rfl) rfl rfl ?_
    first | refine SL.skip rfl rfl ?_ | refine SL.y (op_not rfl) rfl rfl ?_
    first | refine SL.y (op_pickT rfl rfl) rfl rfl ?_ | refine SL.y (op_pickF rfl rfl) rfl rfl ?_ | refine SL.y (op_pickB rfl rfl rfl) rfl rfl ?_
    refine SL.y (op_move rfl) rfl rfl ?_
    first | refine SL.skip rfl rfl ?_ | refine SL.y (op_move rfl) rfl rfl ?_
    first | refine SL.skip rfl rfl ?_ | refine SL.y (op_not rfl) rfl rfl ?_
    first | refine SL.y (op_pickT rfl rfl) rfl rfl ?_ | refine SL.y (op_pickF rfl rfl) rfl rfl ?_ | refine SL.y (op_pickB rfl rfl rfl) rfl rfl ?_
    refine SL.y (op_move rfl) rfl rfl ?_
    first | refine SL.skip rfl rfl ?_ | refine SL.y (op_move rfl) rfl rfl ?_
    first | refine SL.skip rfl rfl ?_ | refine SL.y (op_not rfl) rfl rfl ?_
    first | refine SL.y (op_pickT rfl rfl) rfl rfl ?_ | refine SL.y (op_pickF rfl rfl) rfl rfl ?_ | refine SL.y (op_pickB rfl rfl rfl) rfl rfl ?_
    refine SL.y (op_move rfl) rfl rfl ?_
    first | refine SL.skip rfl rfl ?_ | refine SL.y (op_move rfl) rfl rfl ?_
    first | refine SL.skip rfl rfl ?_ | refine SL.y (op_not rfl) rfl rfl ?_
    first | refine SL.y (op_pickT rfl rfl) rfl rfl ?_ | refine SL.y (op_pickF rfl rfl) rfl rfl ?_ | refine SL.y (op_pickB rfl rfl rfl) rfl rfl ?_
    refine SL.y (op_move rfl) rfl rfl ?_
    first | refine SL.skip rfl rfl ?_ | refine SL.y (op_move rfl) rfl rfl ?_
    first | refine SL.skip rfl rfl ?_ | refine SL.y (op_not rfl) rfl rfl ?_
    first | refine SL.y (op_pickT rfl rfl) rfl rfl ?_ | refine SL.y (op_pickF rfl rfl) rfl rfl ?_ | refine SL.y (op_pickB rfl rfl rfl) rfl rfl ?_
    refine SL.y (op_move rfl) rfl rfl ?_
    first | refine SL.skip rfl rfl ?_ | refine SL.y (op_move rfl) rfl rfl ?_
    first | refine SL.skip rfl rfl ?_ | refine SL.y (op_not rfl) rfl rfl ?_
    first | refine SL.y (op_pickT rfl rfl) rfl rfl ?_ | refine SL.y (op_pickF rfl rfl) rfl rfl ?_ | refine SL.y (op_pickB rfl rfl rfl) rfl rfl ?_
    refine SL.y (op_move rfl) rfl rfl ?_
    first | refine SL.skip rfl rfl ?_ | refine SL.y (op_move rfl) rfl rfl ?_
    first | refine SL.skip rfl rfl ?_ | refine SL.y (op_not rfl) rfl rfl ?_
    first | refine SL.y (op_pickT rfl rfl) rfl rfl ?_ | refine SL.y (op_pickF rfl rfl) rfl rfl ?_ | refine SL.y (op_pickB rfl rfl rfl) rfl rfl ?_
    refine SL.y (op_move rfl) rfl rfl ?_
    first | refine SL.skip rfl rfl ?_ | refine SL.y (op_move rfl) rfl rfl ?_
    first | refine SL.skip rfl rfl ?_ | refine SL.y (op_move rfl) rfl rfl ?_
    first | refine SL.skip rfl rfl ?_ | refine SL.y (op_move rfl) rfl rfl ?_
    -- op
    refine SL.x (op_callF en19 (vs := [_, _, _]) rfl (leq_val (c := c) (ms := ms) (l := []) (.inr ⟨rfl, rfl⟩) (leq_nil i j))) rfl rfl ?_
    rintro _ _ X17 ⟨rfl, hX17, rfl⟩
    first | refine SL.skip rfl rfl ?_ | refine SL.y (op_not rfl) rfl rfl ?_
    first | refine SL.y (op_pickT rfl rfl) rfl rfl ?_ | refine SL.y (op_pickF rfl rfl) rfl rfl ?_ | refine SL.y (op_pickB rfl rfl rfl) rfl rfl ?_
    refine SL.y (op_move rfl) rfl rfl ?_
    first | refine SL.skip rfl rfl ?_ | refine SL.y (op_move rfl) rfl rfl ?_
    -- op
    refine SL.x (op_callF en27 (vs := [_]) rfl (covers_nil)) rfl rfl ?_
    rintro _ _ X18 ⟨rfl, hX18, A18, c18, rfl⟩
    first | refine SL.skip rfl rfl ?_ | refine SL.y (op_lenS Tryd.underlying54 rfl) rfl rfl ?_
    first | refine SL.skip rfl rfl ?_ | refine SL.y (op_eqlT rfl rfl (by omega)) rfl rfl ?_ | refine SL.y (op_eqlF rfl rfl (by omega)) rfl rfl ?_ | refine SL.y (op_eql rfl rfl) rfl rfl ?_
    first | refine SL.y (op_pickT rfl rfl) rfl rfl ?_ | refine SL.y (op_pickF rfl rfl) rfl rfl ?_ | refine SL.y (op_pickB rfl rfl rfl) rfl rfl ?_
    refine SL.y (op_assign rfl) rfl rfl ?_
    refine SL.nil ?_
    -- ret
    refine T.ret1 rfl (ResIs.tmp rfl) ?_
    rfl
end Go.Proofs.YtoheffglppbcbaaDoor
