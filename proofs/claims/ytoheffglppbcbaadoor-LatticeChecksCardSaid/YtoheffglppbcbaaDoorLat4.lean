/- COMPUTING WITH A LATTICE: the pairs of neighbours. -/
import Derived.Test.YtoheffglppbcbaaDoorLat2
namespace Go.Proofs.YtoheffglppbcbaaDoor
section
set_option maxRecDepth 100000
theorem bs57 : ∃ i z, Tryd.prog.info? 57 = some i ∧ i.size = 2 ∧ i.zero = some z ∧ z.cells = ([.int .i64 0, .int .i64 0] : List Value).toArray := bs_of (by kernel_rfl)
theorem en63 : Enters Tryd.prog 63 := enters_mk Tryd.func63 (by kernel_rfl) rfl
theorem sl54 : SlT Tryd.prog 54 57 2 16 := ⟨Tryd.underlying54, sl_of (by kernel_rfl) (by decide)⟩
theorem z57 : Zero Tryd.prog 57 [.int .i64 0, .int .i64 0] := ⟨zero_of (by kernel_rfl)⟩
end
open Go.RowKit
def betB (l : List (Nat × Nat)) (i j k : Nat) : Bool := !lessM l (i : Int) (j : Int) || (List.range k).any fun q => lessM l (i : Int) (q : Int) && lessM l (q : Int) (j : Int)
def covJ (l : List (Nat × Nat)) (i j : Nat) : List (Nat × Nat) := ((List.range j).filter fun j => !betB l i j l.length).map fun j => (i, j)
def covI (l : List (Nat × Nat)) (i : Nat) : List (Nat × Nat) := (List.range i).flatMap fun i => covJ l i l.length
/-- The pairs of neighbours. -/
def coversM (l : List (Nat × Nat)) : List (Nat × Nat) := covI l l.length
def pairC (l : List (Nat × Nat)) : List Value := l.flatMap fun p => [.int .i64 (p.1 : Int), .int .i64 (p.2 : Int)]
theorem pairC_append (l l' : List (Nat × Nat)) : pairC (l ++ l') = pairC l ++ pairC l' := by simp [pairC]
theorem betB_succ (l : List (Nat × Nat)) (i j k : Nat) : betB l i j (k + 1) = (betB l i j k || (lessM l (i : Int) (k : Int) && lessM l (k : Int) (j : Int))) := by
  simp [betB, List.range_succ, Bool.or_assoc]
theorem betB_mono {l : List (Nat × Nat)} {i j k k' : Nat} (h : betB l i j k = true) (hk : k ≤ k') : betB l i j k' = true := by
  simp only [betB, Bool.or_eq_true, List.any_eq_true, List.mem_range] at h ⊢
  rcases h with h | ⟨q, hq, h⟩
  · exact .inl h
  · exact .inr ⟨q, by omega, h⟩
theorem covJ_succ (l : List (Nat × Nat)) (i j : Nat) : covJ l i (j + 1) = covJ l i j ++ (if betB l i j l.length then [] else [(i, j)]) := by
  unfold covJ
  rw [List.range_succ, List.filter_append, List.map_append, List.filter_cons]
  cases betB l i j l.length <;> simp
theorem covI_succ (l : List (Nat × Nat)) (i : Nat) : covI l (i + 1) = covI l i ++ covJ l i l.length := by simp [covI, List.range_succ]
theorem covJ_zero (l : List (Nat × Nat)) (i : Nat) : covJ l i 0 = [] := rfl
theorem covJ_len (l : List (Nat × Nat)) (i j : Nat) : (covJ l i j).length ≤ j := by
  have := List.length_filter_le (fun j => !betB l i j l.length) (List.range j)
  simpa [covJ] using this
theorem covI_len (l : List (Nat × Nat)) (i : Nat) : (covI l i).length ≤ i * l.length := by
  induction i with
  | zero => simp [covI]
  | succ i ih =>
    rw [covI_succ, List.length_append, Nat.succ_mul]
    have := covJ_len l i l.length
    omega

theorem covers_spec {X : PMap} {v : Value} {c : Nat} {ms : List Nat} {l : List (Nat × Nat)} (h : LatN X v c ms l) (hsm : l.length < 1024) : Spec Tryd.prog 27 [v] X fun u X' => SliceR X' u (coversM l).length (pairC (coversM l)) := by
  refine Spec.enter Tryd.func27 rfl Tryd.ntmps27 rfl ?_
  intro w0 hw0
  refine T.seq ?_
  refine T.region ?_
  refine SL.y (op_assign rfl) rfl rfl ?_
  refine SL.nil ?_
  refine T.seq ?_
  refine T.region ?_
  refine SL.y (op_assign rfl) rfl rfl ?_
  refine SL.nil ?_
  refine T.seq ?_
  refine T.seq ?_
  refine T.region ?_
  refine SL.y (op_move rfl) rfl rfl ?_
  -- op
  refine SL.x (op_callF en16 (vs := [_]) rfl (llen_spec h)) rfl rfl ?_
  rintro _ _ X1 ⟨rfl, hX1, rfl⟩
  refine SL.y (op_move (v := .int .i64 ((0 : Nat) : Int)) rfl) rfl rfl ?_
  refine SL.nil ?_
  refine T.block ?_
  -- loop live [0, 2, 3, 9, 10]
  refine T.loopW (fun m env own X' => ∃ (i : Nat) (s : Value), m = l.length - i ∧ i ≤ l.length ∧ X.le X' ∧ GrowS 57 2 s (covI l i).length (pairC (covI l i)) own ∧ env = [(0, v), (3, s), (9, .int .i64 (l.length : Int)), (10, .int .i64 (i : Int))]) l.length ⟨0, _, by simp, by omega, hX1, GrowS.nil, rfl⟩ (by repeat (first | exact Sub.nil | refine Sub.cons rfl ?_)) ?_
  rintro m _ G X2 ⟨i, s, rfl, hi, hX2, hG, rfl⟩
  rcases Nat.lt_or_ge i l.length with hil | hil
  · skip
    refine T.seq ?_
    refine T.region ?_
    first | refine SL.y (op_lssT rfl rfl (by omega)) rfl rfl ?_ | refine SL.y (op_lssF rfl rfl (by omega)) rfl rfl ?_ | refine SL.y (op_lss rfl rfl) rfl rfl ?_
    refine SL.nil ?_
    refine T.seq ?_
    refine T.condT rfl ?_
    refine T.skip ?_
    refine T.seq ?_
    refine T.block ?_
    refine T.seq ?_
    refine T.region ?_
    refine SL.y (op_move rfl) rfl rfl ?_
    refine SL.y (op_assign rfl) rfl rfl ?_
    refine SL.nil ?_
    refine T.seq ?_
    refine T.region ?_
    refine SL.y (op_move rfl) rfl rfl ?_
    -- op
    refine SL.x (op_callF en16 (vs := [_]) rfl (llen_spec (h.mono hX2))) rfl rfl ?_
    rintro _ _ X3 ⟨rfl, hX3, rfl⟩
    refine SL.y (op_move (v := .int .i64 ((0 : Nat) : Int)) rfl) rfl rfl ?_
    refine SL.nil ?_
    refine T.block ?_
    -- loop live [0, 2, 3, 4, 10, 14, 15]
    refine T.loopW (fun m env own X' => ∃ (j : Nat) (s : Value), m = l.length - j ∧ j ≤ l.length ∧ X.le X' ∧ GrowS 57 2 s (covI l i ++ covJ l i j).length (pairC (covI l i ++ covJ l i j)) own ∧ env = [(0, v), (3, s), (4, .int .i64 (i : Int)), (9, .int .i64 (l.length : Int)), (10, .int .i64 (i : Int)), (14, .int .i64 (l.length : Int)), (15, .int .i64 (j : Int))]) l.length ⟨0, s, by simp, by omega, hX2.trans' hX3, by simpa [covJ_zero] using hG, rfl⟩ (by repeat (first | exact Sub.nil | refine Sub.cons rfl ?_)) ?_
    rintro m _ G X4 ⟨j, s, rfl, hj, hX4, hG, rfl⟩
    rcases Nat.lt_or_ge j l.length with hjl | hjl
    · skip
      refine T.seq ?_
      refine T.region ?_
      first | refine SL.y (op_lssT rfl rfl (by omega)) rfl rfl ?_ | refine SL.y (op_lssF rfl rfl (by omega)) rfl rfl ?_ | refine SL.y (op_lss rfl rfl) rfl rfl ?_
      refine SL.nil ?_
      refine T.seq ?_
      refine T.condT rfl ?_
      refine T.skip ?_
      refine T.seq ?_
      refine T.block ?_
      refine T.seq ?_
      refine T.region ?_
      refine SL.y (op_move rfl) rfl rfl ?_
      refine SL.y (op_assign rfl) rfl rfl ?_
      refine SL.nil ?_
      refine T.seq ?_
      refine T.region ?_
      refine SL.y (op_move rfl) rfl rfl ?_
      refine SL.y (op_move rfl) rfl rfl ?_
      refine SL.y (op_move rfl) rfl rfl ?_
      -- op
      refine SL.x (op_callF en63 (vs := [_, _, _]) rfl (less_spec (h.mono hX4) (i : Int) (j : Int))) rfl rfl ?_
      rintro _ _ X5 ⟨rfl, hX5, rfl⟩
      refine SL.y (op_not rfl) rfl rfl ?_
      refine SL.y (op_assign rfl) rfl rfl ?_
      refine SL.nil ?_
      refine T.seq ?_
      refine T.seq ?_
      refine T.region ?_
      refine SL.y (op_assign (v := .int .i64 ((0 : Nat) : Int)) rfl) rfl rfl ?_
      refine SL.nil ?_
      refine T.block ?_
      -- loop live [0, 2, 3, 4, 5, 6, 7, 10, 15]
      refine T.loopW (fun m env own X' => ∃ (k : Nat), m = l.length - k ∧ k ≤ l.length ∧ X.le X' ∧ G = own ∧ env = [(0, v), (3, s), (4, .int .i64 (i : Int)), (5, .int .i64 (j : Int)), (6, .bool (betB l i j k)), (7, .int .i64 (k : Int)), (9, .int .i64 (l.length : Int)), (10, .int .i64 (i : Int)), (14, .int .i64 (l.length : Int)), (15, .int .i64 (j : Int))]) l.length ⟨0, by simp, by omega, hX4.trans' hX5, rfl, by rw [show betB l i j 0 = !lessM l (i : Int) (j : Int) by simp [betB]]⟩ (by repeat (first | exact Sub.nil | refine Sub.cons rfl ?_)) ?_
      rintro m _ _ X6 ⟨k, rfl, hk, hX6, rfl, rfl⟩
      refine T.seq ?_
      refine T.seq ?_
      refine T.region ?_
      refine SL.y (op_move rfl) rfl rfl ?_
      refine SL.y (op_move rfl) rfl rfl ?_
      -- op
      refine SL.x (op_callF en16 (vs := [_]) rfl (llen_spec (h.mono hX6))) rfl rfl ?_
      rintro _ _ X7 ⟨rfl, hX7, rfl⟩
      cases hb : betB l i j k with
      | true =>
        have hbl := betB_mono hb hk
        rcases Nat.lt_or_ge k l.length with hkl | hkl
        · skip
          first | refine SL.y (op_lssT rfl rfl (by omega)) rfl rfl ?_ | refine SL.y (op_lssF rfl rfl (by omega)) rfl rfl ?_ | refine SL.y (op_lss rfl rfl) rfl rfl ?_
          refine SL.y (op_move rfl) rfl rfl ?_
          first | refine SL.skip rfl rfl ?_ | refine SL.y (op_move rfl) rfl rfl ?_
          first | refine SL.skip rfl rfl ?_ | refine SL.y (op_not rfl) rfl rfl ?_
          first | refine SL.y (op_pickT rfl rfl) rfl rfl ?_ | refine SL.y (op_pickF rfl rfl) rfl rfl ?_ | refine SL.y (op_pickB rfl rfl rfl) rfl rfl ?_
          refine SL.nil ?_
          refine T.condF rfl ?_
          refine T.exit (T.exitCode (T.exitCut (T.exitBlk ?_)))
          refine T.seq ?_
          refine T.region ?_
          refine SL.y (op_move rfl) rfl rfl ?_
          refine SL.y (op_not rfl) rfl rfl ?_
          refine SL.nil ?_
          refine T.condF rfl ?_
          refine T.skip ?_
          refine T.blk ?_
          refine T.region ?_
          first | refine SL.y (op_addN (q := 1) rfl rfl (by omega)) rfl rfl ?_ | refine SL.y (op_add rfl rfl (by omega) (by omega)) rfl rfl ?_ | refine SL.y (op_addW rfl rfl) rfl rfl ?_
          refine SL.y (op_move rfl) rfl rfl ?_
          refine SL.nil ?_
          -- cut
          exact T.backW (l.length - (j + 1)) (by omega) ⟨j + 1, s, rfl, by omega, hX6.trans' hX7, by rw [covJ_succ, hbl]; simpa using hG, rfl⟩ (by repeat (first | exact Sub.nil | refine Sub.cons rfl ?_))
        · first | refine SL.y (op_lssT rfl rfl (by omega)) rfl rfl ?_ | refine SL.y (op_lssF rfl rfl (by omega)) rfl rfl ?_ | refine SL.y (op_lss rfl rfl) rfl rfl ?_
          refine SL.y (op_move rfl) rfl rfl ?_
          first | refine SL.skip rfl rfl ?_ | refine SL.y (op_move rfl) rfl rfl ?_
          first | refine SL.skip rfl rfl ?_ | refine SL.y (op_not rfl) rfl rfl ?_
          first | refine SL.y (op_pickT rfl rfl) rfl rfl ?_ | refine SL.y (op_pickF rfl rfl) rfl rfl ?_ | refine SL.y (op_pickB rfl rfl rfl) rfl rfl ?_
          refine SL.nil ?_
          refine T.condF rfl ?_
          refine T.exit (T.exitCode (T.exitCut (T.exitBlk ?_)))
          refine T.seq ?_
          refine T.region ?_
          refine SL.y (op_move rfl) rfl rfl ?_
          refine SL.y (op_not rfl) rfl rfl ?_
          refine SL.nil ?_
          refine T.condF rfl ?_
          refine T.skip ?_
          refine T.blk ?_
          refine T.region ?_
          first | refine SL.y (op_addN (q := 1) rfl rfl (by omega)) rfl rfl ?_ | refine SL.y (op_add rfl rfl (by omega) (by omega)) rfl rfl ?_ | refine SL.y (op_addW rfl rfl) rfl rfl ?_
          refine SL.y (op_move rfl) rfl rfl ?_
          refine SL.nil ?_
          -- cut
          exact T.backW (l.length - (j + 1)) (by omega) ⟨j + 1, s, rfl, by omega, hX6.trans' hX7, by rw [covJ_succ, hbl]; simpa using hG, rfl⟩ (by repeat (first | exact Sub.nil | refine Sub.cons rfl ?_))
      | false =>
        rcases Nat.lt_or_ge k l.length with hkl | hkl
        · skip
          first | refine SL.y (op_lssT rfl rfl (by omega)) rfl rfl ?_ | refine SL.y (op_lssF rfl rfl (by omega)) rfl rfl ?_ | refine SL.y (op_lss rfl rfl) rfl rfl ?_
          refine SL.y (op_move rfl) rfl rfl ?_
          first | refine SL.skip rfl rfl ?_ | refine SL.y (op_move rfl) rfl rfl ?_
          first | refine SL.skip rfl rfl ?_ | refine SL.y (op_not rfl) rfl rfl ?_
          first | refine SL.y (op_pickT rfl rfl) rfl rfl ?_ | refine SL.y (op_pickF rfl rfl) rfl rfl ?_ | refine SL.y (op_pickB rfl rfl rfl) rfl rfl ?_
          refine SL.nil ?_
          refine T.condT rfl ?_
          refine T.skip ?_
          refine T.seq ?_
          refine T.block ?_
          refine T.region ?_
          refine SL.y (op_move rfl) rfl rfl ?_
          refine SL.y (op_move rfl) rfl rfl ?_
          refine SL.y (op_move rfl) rfl rfl ?_
          -- op
          refine SL.x (op_callF en63 (vs := [_, _, _]) rfl (less_spec ((h.mono hX6).mono hX7) (i : Int) (k : Int))) rfl rfl ?_
          rintro _ _ X8 ⟨rfl, hX8, rfl⟩
          cases h1 : lessM l (i : Int) (k : Int) with
          | true =>
            refine SL.y (op_move rfl) rfl rfl ?_
            first | refine SL.skip rfl rfl ?_ | refine SL.y (op_move rfl) rfl rfl ?_
            first | refine SL.skip rfl rfl ?_ | refine SL.y (op_move rfl) rfl rfl ?_
            first | refine SL.skip rfl rfl ?_ | refine SL.y (op_move rfl) rfl rfl ?_
            -- op
            refine SL.x (op_callF en63 (vs := [_, _, _]) rfl (less_spec (((h.mono hX6).mono hX7).mono hX8) (k : Int) (j : Int))) rfl rfl ?_
            rintro _ _ X9 ⟨rfl, hX9, rfl⟩
            first | refine SL.y (op_pickT rfl rfl) rfl rfl ?_ | refine SL.y (op_pickF rfl rfl) rfl rfl ?_ | refine SL.y (op_pickB rfl rfl rfl) rfl rfl ?_
            refine SL.y (op_assign rfl) rfl rfl ?_
            refine SL.nil ?_
            refine T.blk ?_
            refine T.region ?_
            refine SL.y (op_move rfl) rfl rfl ?_
            first | refine SL.y (op_addN (q := 1) rfl rfl (by omega)) rfl rfl ?_ | refine SL.y (op_add rfl rfl (by omega) (by omega)) rfl rfl ?_ | refine SL.y (op_addW rfl rfl) rfl rfl ?_
            refine SL.y (op_assign rfl) rfl rfl ?_
            refine SL.nil ?_
            -- cut
            exact T.backW (l.length - (k + 1)) (by omega) ⟨k + 1, rfl, by omega, ((hX6.trans' hX7).trans' hX8).trans' hX9, rfl, by rw [betB_succ, hb, h1]⟩ (by repeat (first | exact Sub.nil | refine Sub.cons rfl ?_))
          | false =>
            refine SL.y (op_move rfl) rfl rfl ?_
            first | refine SL.skip rfl rfl ?_ | refine SL.y (op_move rfl) rfl rfl ?_
            first | refine SL.skip rfl rfl ?_ | refine SL.y (op_move rfl) rfl rfl ?_
            first | refine SL.skip rfl rfl ?_ | refine SL.y (op_move rfl) rfl rfl ?_
            -- op
            refine SL.skip rfl rfl ?_
            first | refine SL.y (op_pickT rfl rfl) rfl rfl ?_ | refine SL.y (op_pickF rfl rfl) rfl rfl ?_ | refine SL.y (op_pickB rfl rfl rfl) rfl rfl ?_
            refine SL.y (op_assign rfl) rfl rfl ?_
            refine SL.nil ?_
            refine T.blk ?_
            refine T.region ?_
            refine SL.y (op_move rfl) rfl rfl ?_
            first | refine SL.y (op_addN (q := 1) rfl rfl (by omega)) rfl rfl ?_ | refine SL.y (op_add rfl rfl (by omega) (by omega)) rfl rfl ?_ | refine SL.y (op_addW rfl rfl) rfl rfl ?_
            refine SL.y (op_assign rfl) rfl rfl ?_
            refine SL.nil ?_
            -- cut
            exact T.backW (l.length - (k + 1)) (by omega) ⟨k + 1, rfl, by omega, (hX6.trans' hX7).trans' hX8, rfl, by rw [betB_succ, hb, h1]⟩ (by repeat (first | exact Sub.nil | refine Sub.cons rfl ?_))
        · obtain rfl : k = l.length := by omega
          have c1 := covI_len l i
          have c2 := covJ_len l i j
          have c3 : i * l.length ≤ l.length * l.length := Nat.mul_le_mul_right _ hi
          have c4 : l.length * l.length ≤ 1024 * 1024 := Nat.mul_le_mul (by omega) (by omega)
          first | refine SL.y (op_lssT rfl rfl (by omega)) rfl rfl ?_ | refine SL.y (op_lssF rfl rfl (by omega)) rfl rfl ?_ | refine SL.y (op_lss rfl rfl) rfl rfl ?_
          refine SL.y (op_move rfl) rfl rfl ?_
          first | refine SL.skip rfl rfl ?_ | refine SL.y (op_move rfl) rfl rfl ?_
          first | refine SL.skip rfl rfl ?_ | refine SL.y (op_not rfl) rfl rfl ?_
          first | refine SL.y (op_pickT rfl rfl) rfl rfl ?_ | refine SL.y (op_pickF rfl rfl) rfl rfl ?_ | refine SL.y (op_pickB rfl rfl rfl) rfl rfl ?_
          refine SL.nil ?_
          refine T.condF rfl ?_
          refine T.exit (T.exitCode (T.exitCut (T.exitBlk ?_)))
          refine T.seq ?_
          refine T.region ?_
          refine SL.y (op_move rfl) rfl rfl ?_
          refine SL.y (op_not rfl) rfl rfl ?_
          refine SL.nil ?_
          refine T.condT rfl ?_
          refine T.region ?_
          refine SL.y (op_move rfl) rfl rfl ?_
          refine SL.y (op_move rfl) rfl rfl ?_
          refine SL.y (op_move rfl) rfl rfl ?_
          refine SL.y (op_buildA (size := 1) Tryd.underlying57 z57 (by kernel_rfl) (qs := [(0, _), (1, _)]) rfl rfl rfl) rfl rfl ?_
          refine SL.x (op_buildSlice Tryd.underlying54 bs57 (qs := [(0, _)]) rfl rfl rfl rfl rfl) rfl rfl ?_
          rintro _ _ _ ⟨B49, rfl, rfl, rfl⟩
          -- op
          refine SL.x (op_appendG (own0 := []) sl54 rfl hG rfl rfl rfl (by (have : maxLen = 9223372036854775807 := rfl); rw [List.length_append]; omega) (by rw [List.length_append]; omega)) rfl rfl ?_
          rintro s' _ _ ⟨G', rfl, rfl, hG'⟩
          refine SL.y (op_assign rfl) rfl rfl ?_
          refine SL.nil ?_
          refine T.blk ?_
          refine T.region ?_
          first | refine SL.y (op_addN (q := 1) rfl rfl (by omega)) rfl rfl ?_ | refine SL.y (op_add rfl rfl (by omega) (by omega)) rfl rfl ?_ | refine SL.y (op_addW rfl rfl) rfl rfl ?_
          refine SL.y (op_move rfl) rfl rfl ?_
          refine SL.nil ?_
          -- cut
          exact T.backW (l.length - (j + 1)) (by omega) ⟨j + 1, s', rfl, by omega, hX6.trans' hX7, by rw [covJ_succ, hb, ← List.append_assoc, pairC_append _ (if false = true then _ else _)]; simpa [pairC, csets, vcells, Nat.add_assoc] using hG', rfl⟩ (by repeat (first | exact Sub.nil | refine Sub.cons rfl ?_))
    · obtain rfl : j = l.length := by omega
      refine T.seq ?_
      refine T.region ?_
      first | refine SL.y (op_lssT rfl rfl (by omega)) rfl rfl ?_ | refine SL.y (op_lssF rfl rfl (by omega)) rfl rfl ?_ | refine SL.y (op_lss rfl rfl) rfl rfl ?_
      refine SL.nil ?_
      refine T.seq ?_
      refine T.condF rfl ?_
      refine T.exit (T.exitCode (T.exitCut (T.exitBlk ?_)))
      refine T.blk ?_
      refine T.region ?_
      first | refine SL.y (op_addN (q := 1) rfl rfl (by omega)) rfl rfl ?_ | refine SL.y (op_add rfl rfl (by omega) (by omega)) rfl rfl ?_ | refine SL.y (op_addW rfl rfl) rfl rfl ?_
      refine SL.y (op_move rfl) rfl rfl ?_
      refine SL.nil ?_
      -- cut
      exact T.backW (l.length - (i + 1)) (by omega) ⟨i + 1, s, rfl, by omega, hX4, by rw [covI_succ]; exact hG, rfl⟩ (by repeat (first | exact Sub.nil | refine Sub.cons rfl ?_))
  · obtain rfl : i = l.length := by omega
    refine T.seq ?_
    refine T.region ?_
    first | refine SL.y (op_lssT rfl rfl (by omega)) rfl rfl ?_ | refine SL.y (op_lssF rfl rfl (by omega)) rfl rfl ?_ | refine SL.y (op_lss rfl rfl) rfl rfl ?_
    refine SL.nil ?_
    refine T.seq ?_
    refine T.condF rfl ?_
    refine T.exit (T.exitCode (T.exitCut (T.exitBlk ?_)))
    refine T.seq ?_
    refine T.region ?_
    refine SL.y (op_move rfl) rfl rfl ?_
    refine SL.y (op_assign rfl) rfl rfl ?_
    refine SL.nil ?_
    -- ret
    refine T.pubG (own0 := []) hG ?_
    intro X3 hX3 hS3
    refine T.ret1 rfl (ResIs.tmp rfl) ?_
    exact hS3
end Go.Proofs.YtoheffglppbcbaaDoor
