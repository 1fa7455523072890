/- THE REFERENCE's LATTICE (arbacref46): neighbours, numbers, lists, the lectic order computed. -/
import Derived.Test.YtoheffglppbcbaaDoorRef8
import Derived.Test.YtoheffglppbcbaaDoorSem2
namespace Go.Proofs.YtoheffglppbcbaaDoor
section
set_option maxRecDepth 100000
theorem fa75_1 : FAdr Tryd.prog 75 1 1 := fadr_mk Tryd.underlying75 rfl rfl (by kernel_rfl)
theorem z75 : Zero Tryd.prog 75 [.int .u64 0, .int .u64 0] := ⟨zero_of (by kernel_rfl)⟩
end
open Go.RowKit
def cvB (l : List (Nat × Nat)) (i j k : Nat) : Bool := decide (i ≠ j) && leqR l i j && (List.range k).all fun q => !(decide (q ≠ i) && decide (q ≠ j) && leqR l i q && leqR l q j)
theorem cvB_succ (l : List (Nat × Nat)) (i j k : Nat) : cvB l i j (k + 1) = (cvB l i j k && !(decide (k ≠ i) && decide (k ≠ j) && leqR l i k && leqR l k j)) := by
  simp [cvB, List.range_succ, Bool.and_assoc]
def cvJ (l : List (Nat × Nat)) (i j : Nat) : List (Nat × Nat) := ((List.range j).filter fun j => cvB l i j l.length).map fun j => (i, j)
def cvI (l : List (Nat × Nat)) (i : Nat) : List (Nat × Nat) := (List.range i).flatMap fun i => cvJ l i l.length
def coversR (l : List (Nat × Nat)) : List (Nat × Nat) := cvI l l.length
theorem cvJ_succ (l : List (Nat × Nat)) (i j : Nat) : cvJ l i (j + 1) = cvJ l i j ++ (if cvB l i j l.length then [(i, j)] else []) := by
  unfold cvJ
  rw [List.range_succ, List.filter_append, List.map_append, List.filter_cons]
  cases cvB l i j l.length <;> simp
theorem cvI_succ (l : List (Nat × Nat)) (i : Nat) : cvI l (i + 1) = cvI l i ++ cvJ l i l.length := by simp [cvI, List.range_succ]
theorem cvJ_zero (l : List (Nat × Nat)) (i : Nat) : cvJ l i 0 = [] := rfl
theorem cvJ_len (l : List (Nat × Nat)) (i j : Nat) : (cvJ l i j).length ≤ j := by
  have := List.length_filter_le (fun j => cvB l i j l.length) (List.range j)
  simpa [cvJ] using this
theorem cvI_len (l : List (Nat × Nat)) (i : Nat) : (cvI l i).length ≤ i * l.length := by
  induction i with
  | zero => simp [cvI]
  | succ i ih =>
    rw [cvI_succ, List.length_append, Nat.succ_mul]
    have := cvJ_len l i l.length
    omega
theorem covers46_spec {X : PMap} {v : Value} {l : List (Nat × Nat)} (h : ConT X v l) : Spec Tryd.prog 29 [v] X fun u X' => SliceR X' u (coversR l).length (pairC (coversR l)) := by
  have hh := h
  obtain ⟨hS, hl, _⟩ := h
  obtain ⟨A, cp, rfl⟩ := hS.form
  refine Spec.enter Tryd.func29 rfl Tryd.ntmps29 rfl ?_
  intro w0 hw0
  refine T.seq ?_
  refine T.region ?_
  refine SL.y (op_assign rfl) rfl rfl ?_
  refine SL.nil ?_
  refine T.seq ?_
  refine T.region ?_
  refine SL.y (op_assign rfl) rfl rfl ?_
  refine SL.nil ?_
  refine T.seq ?_
  refine T.seq ?_
  refine T.region ?_
  refine SL.y (op_move rfl) rfl rfl ?_
  refine SL.y (op_lenS Tryd.underlying29 rfl) rfl rfl ?_
  refine SL.y (op_move (v := .int .i64 ((0 : Nat) : Int)) rfl) rfl rfl ?_
  refine SL.nil ?_
  refine T.block ?_
  -- loop live [0, 2, 3, 9, 10]
  refine T.loopW (fun m env own X' => ∃ (i : Nat) (s : Value), m = l.length - i ∧ i ≤ l.length ∧ X.le X' ∧ GrowS 57 2 s (cvI l i).length (pairC (cvI l i)) own ∧ env = [(0, .slice A l.length cp), (3, s), (9, .int .i64 (l.length : Int)), (10, .int .i64 (i : Int))]) l.length ⟨0, _, by simp, by omega, PMap.le_refl _, GrowS.nil, rfl⟩ (by repeat (first | exact Sub.nil | refine Sub.cons rfl ?_)) ?_
  rintro m _ G X2 ⟨i, s, rfl, hi, hX2, hG, rfl⟩
  rcases Nat.lt_or_ge i l.length with hil | hil
  · skip
    refine T.seq ?_
    refine T.region ?_
    first | refine SL.y (op_lssT rfl rfl (by omega)) rfl rfl ?_ | refine SL.y (op_lssF rfl rfl (by omega)) rfl rfl ?_ | refine SL.y (op_lss rfl rfl) rfl rfl ?_
    refine SL.nil ?_
    refine T.seq ?_
    refine T.condT rfl ?_
    refine T.skip ?_
    refine T.seq ?_
    refine T.block ?_
    refine T.seq ?_
    refine T.region ?_
    refine SL.y (op_move rfl) rfl rfl ?_
    refine SL.y (op_assign rfl) rfl rfl ?_
    refine SL.nil ?_
    refine T.seq ?_
    refine T.region ?_
    refine SL.y (op_move rfl) rfl rfl ?_
    refine SL.y (op_lenS Tryd.underlying29 rfl) rfl rfl ?_
    refine SL.y (op_move (v := .int .i64 ((0 : Nat) : Int)) rfl) rfl rfl ?_
    refine SL.nil ?_
    refine T.block ?_
    -- loop live [0, 2, 3, 4, 10, 14, 15]
    refine T.loopW (fun m env own X' => ∃ (j : Nat) (s : Value), m = l.length - j ∧ j ≤ l.length ∧ X.le X' ∧ GrowS 57 2 s (cvI l i ++ cvJ l i j).length (pairC (cvI l i ++ cvJ l i j)) own ∧ env = [(0, .slice A l.length cp), (3, s), (4, .int .i64 (i : Int)), (9, .int .i64 (l.length : Int)), (10, .int .i64 (i : Int)), (14, .int .i64 (l.length : Int)), (15, .int .i64 (j : Int))]) l.length ⟨0, s, by simp, by omega, hX2, by simpa [cvJ_zero] using hG, rfl⟩ (by repeat (first | exact Sub.nil | refine Sub.cons rfl ?_)) ?_
    rintro m _ G X4 ⟨j, s, rfl, hj, hX4, hG, rfl⟩
    rcases Nat.lt_or_ge j l.length with hjl | hjl
    · skip
      by_cases hij : i = j
      · skip
        refine T.seq ?_
        refine T.region ?_
        first | refine SL.y (op_lssT rfl rfl (by omega)) rfl rfl ?_ | refine SL.y (op_lssF rfl rfl (by omega)) rfl rfl ?_ | refine SL.y (op_lss rfl rfl) rfl rfl ?_
        refine SL.nil ?_
        refine T.seq ?_
        refine T.condT rfl ?_
        refine T.skip ?_
        refine T.seq ?_
        refine T.block ?_
        refine T.seq ?_
        refine T.region ?_
        refine SL.y (op_move rfl) rfl rfl ?_
        refine SL.y (op_assign rfl) rfl rfl ?_
        refine SL.nil ?_
        refine T.seq ?_
        refine T.region ?_
        refine SL.y (op_move rfl) rfl rfl ?_
        refine SL.y (op_move rfl) rfl rfl ?_
        first | refine SL.y (op_neqT rfl rfl (by omega)) rfl rfl ?_ | refine SL.y (op_neqF rfl rfl (by omega)) rfl rfl ?_ | refine SL.y (op_neq rfl rfl) rfl rfl ?_
        refine SL.y (op_move rfl) rfl rfl ?_
        first | refine SL.skip rfl rfl ?_ | refine SL.y (op_move rfl) rfl rfl ?_
        first | refine SL.skip rfl rfl ?_ | refine SL.y (op_move rfl) rfl rfl ?_
        first | refine SL.skip rfl rfl ?_ | refine SL.y (op_move rfl) rfl rfl ?_
        -- op
        refine SL.skip rfl rfl ?_
        first | refine SL.y (op_pickT rfl rfl) rfl rfl ?_ | refine SL.y (op_pickF rfl rfl) rfl rfl ?_ | refine SL.y (op_pickB rfl rfl rfl) rfl rfl ?_
        refine SL.y (op_assign rfl) rfl rfl ?_
        refine SL.nil ?_
        refine T.seq ?_
        refine T.seq ?_
        refine T.region ?_
        refine SL.y (op_move rfl) rfl rfl ?_
        refine SL.y (op_lenS Tryd.underlying29 rfl) rfl rfl ?_
        refine SL.y (op_move (v := .int .i64 ((0 : Nat) : Int)) rfl) rfl rfl ?_
        refine SL.nil ?_
        refine T.block ?_
        -- loop live [0, 2, 3, 4, 5, 6, 10, 15, 28, 29]
        have hs0 : cvB l i j 0 = false := by simp [cvB, hij]
        clear hij
        refine T.loopW (fun m env own X' => ∃ (k : Nat), m = l.length - k ∧ k ≤ l.length ∧ X.le X' ∧ G = own ∧ env = [(0, .slice A l.length cp), (3, s), (4, .int .i64 (i : Int)), (5, .int .i64 (j : Int)), (6, .bool (cvB l i j k)), (9, .int .i64 (l.length : Int)), (10, .int .i64 (i : Int)), (14, .int .i64 (l.length : Int)), (15, .int .i64 (j : Int)), (28, .int .i64 (l.length : Int)), (29, .int .i64 (k : Int))]) l.length ⟨0, by simp, by omega, hX4, rfl, by rw [hs0]⟩ (by repeat (first | exact Sub.nil | refine Sub.cons rfl ?_)) ?_
        rintro m _ _ Y1 ⟨k, rfl, hk, hY1, rfl, rfl⟩
        rcases Nat.lt_or_ge k l.length with hkl | hkl
        · skip
          by_cases q1 : k = i
          · skip
            refine T.seq ?_
            refine T.region ?_
            first | refine SL.y (op_lssT rfl rfl (by omega)) rfl rfl ?_ | refine SL.y (op_lssF rfl rfl (by omega)) rfl rfl ?_ | refine SL.y (op_lss rfl rfl) rfl rfl ?_
            refine SL.nil ?_
            refine T.seq ?_
            refine T.condT rfl ?_
            refine T.skip ?_
            refine T.seq ?_
            refine T.block ?_
            refine T.seq ?_
            refine T.region ?_
            refine SL.y (op_move rfl) rfl rfl ?_
            refine SL.y (op_assign rfl) rfl rfl ?_
            refine SL.nil ?_
            refine T.seq ?_
            refine T.region ?_
            refine SL.y (op_move rfl) rfl rfl ?_
            refine SL.y (op_move rfl) rfl rfl ?_
            first | refine SL.y (op_neqT rfl rfl (by omega)) rfl rfl ?_ | refine SL.y (op_neqF rfl rfl (by omega)) rfl rfl ?_ | refine SL.y (op_neq rfl rfl) rfl rfl ?_
            refine SL.y (op_move rfl) rfl rfl ?_
            first | refine SL.skip rfl rfl ?_ | refine SL.y (op_move rfl) rfl rfl ?_
            first | refine SL.skip rfl rfl ?_ | refine SL.y (op_move rfl) rfl rfl ?_
            first | refine SL.skip rfl rfl ?_ | refine SL.y (op_neqT rfl rfl (by omega)) rfl rfl ?_ | refine SL.y (op_neqF rfl rfl (by omega)) rfl rfl ?_ | refine SL.y (op_neq rfl rfl) rfl rfl ?_
            first | refine SL.y (op_pickT rfl rfl) rfl rfl ?_ | refine SL.y (op_pickF rfl rfl) rfl rfl ?_ | refine SL.y (op_pickB rfl rfl rfl) rfl rfl ?_
            refine SL.y (op_move rfl) rfl rfl ?_
            first | refine SL.skip rfl rfl ?_ | refine SL.y (op_move rfl) rfl rfl ?_
            first | refine SL.skip rfl rfl ?_ | refine SL.y (op_move rfl) rfl rfl ?_
            first | refine SL.skip rfl rfl ?_ | refine SL.y (op_move rfl) rfl rfl ?_
            -- op
            refine SL.skip rfl rfl ?_
            first | refine SL.y (op_pickT rfl rfl) rfl rfl ?_ | refine SL.y (op_pickF rfl rfl) rfl rfl ?_ | refine SL.y (op_pickB rfl rfl rfl) rfl rfl ?_
            refine SL.y (op_move rfl) rfl rfl ?_
            first | refine SL.skip rfl rfl ?_ | refine SL.y (op_move rfl) rfl rfl ?_
            first | refine SL.skip rfl rfl ?_ | refine SL.y (op_move rfl) rfl rfl ?_
            first | refine SL.skip rfl rfl ?_ | refine SL.y (op_move rfl) rfl rfl ?_
            -- op
            refine SL.skip rfl rfl ?_
            first | refine SL.y (op_pickT rfl rfl) rfl rfl ?_ | refine SL.y (op_pickF rfl rfl) rfl rfl ?_ | refine SL.y (op_pickB rfl rfl rfl) rfl rfl ?_
            refine SL.nil ?_
            refine T.condF rfl ?_
            refine T.skip ?_
            refine T.blk ?_
            refine T.region ?_
            first | refine SL.y (op_addN (q := 1) rfl rfl (by omega)) rfl rfl ?_ | refine SL.y (op_add rfl rfl (by omega) (by omega)) rfl rfl ?_ | refine SL.y (op_addW rfl rfl) rfl rfl ?_
            refine SL.y (op_move rfl) rfl rfl ?_
            refine SL.nil ?_
            -- cut
            exact T.backW (l.length - (k + 1)) (by omega) ⟨k + 1, rfl, by omega, hY1, rfl, by rw [show cvB l i j (k + 1) = cvB l i j k by rw [cvB_succ, decide_eq_false (show ¬ k ≠ i by omega)]; simp]⟩ (by repeat (first | exact Sub.nil | refine Sub.cons rfl ?_))
          · by_cases q2 : k = j
            · skip
              refine T.seq ?_
              refine T.region ?_
              first | refine SL.y (op_lssT rfl rfl (by omega)) rfl rfl ?_ | refine SL.y (op_lssF rfl rfl (by omega)) rfl rfl ?_ | refine SL.y (op_lss rfl rfl) rfl rfl ?_
              refine SL.nil ?_
              refine T.seq ?_
              refine T.condT rfl ?_
              refine T.skip ?_
              refine T.seq ?_
              refine T.block ?_
              refine T.seq ?_
              refine T.region ?_
              refine SL.y (op_move rfl) rfl rfl ?_
              refine SL.y (op_assign rfl) rfl rfl ?_
              refine SL.nil ?_
              refine T.seq ?_
              refine T.region ?_
              refine SL.y (op_move rfl) rfl rfl ?_
              refine SL.y (op_move rfl) rfl rfl ?_
              first | refine SL.y (op_neqT rfl rfl (by omega)) rfl rfl ?_ | refine SL.y (op_neqF rfl rfl (by omega)) rfl rfl ?_ | refine SL.y (op_neq rfl rfl) rfl rfl ?_
              refine SL.y (op_move rfl) rfl rfl ?_
              first | refine SL.skip rfl rfl ?_ | refine SL.y (op_move rfl) rfl rfl ?_
              first | refine SL.skip rfl rfl ?_ | refine SL.y (op_move rfl) rfl rfl ?_
              first | refine SL.skip rfl rfl ?_ | refine SL.y (op_neqT rfl rfl (by omega)) rfl rfl ?_ | refine SL.y (op_neqF rfl rfl (by omega)) rfl rfl ?_ | refine SL.y (op_neq rfl rfl) rfl rfl ?_
              first | refine SL.y (op_pickT rfl rfl) rfl rfl ?_ | refine SL.y (op_pickF rfl rfl) rfl rfl ?_ | refine SL.y (op_pickB rfl rfl rfl) rfl rfl ?_
              refine SL.y (op_move rfl) rfl rfl ?_
              first | refine SL.skip rfl rfl ?_ | refine SL.y (op_move rfl) rfl rfl ?_
              first | refine SL.skip rfl rfl ?_ | refine SL.y (op_move rfl) rfl rfl ?_
              first | refine SL.skip rfl rfl ?_ | refine SL.y (op_move rfl) rfl rfl ?_
              -- op
              refine SL.skip rfl rfl ?_
              first | refine SL.y (op_pickT rfl rfl) rfl rfl ?_ | refine SL.y (op_pickF rfl rfl) rfl rfl ?_ | refine SL.y (op_pickB rfl rfl rfl) rfl rfl ?_
              refine SL.y (op_move rfl) rfl rfl ?_
              first | refine SL.skip rfl rfl ?_ | refine SL.y (op_move rfl) rfl rfl ?_
              first | refine SL.skip rfl rfl ?_ | refine SL.y (op_move rfl) rfl rfl ?_
              first | refine SL.skip rfl rfl ?_ | refine SL.y (op_move rfl) rfl rfl ?_
              -- op
              refine SL.skip rfl rfl ?_
              first | refine SL.y (op_pickT rfl rfl) rfl rfl ?_ | refine SL.y (op_pickF rfl rfl) rfl rfl ?_ | refine SL.y (op_pickB rfl rfl rfl) rfl rfl ?_
              refine SL.nil ?_
              refine T.condF rfl ?_
              refine T.skip ?_
              refine T.blk ?_
              refine T.region ?_
              first | refine SL.y (op_addN (q := 1) rfl rfl (by omega)) rfl rfl ?_ | refine SL.y (op_add rfl rfl (by omega) (by omega)) rfl rfl ?_ | refine SL.y (op_addW rfl rfl) rfl rfl ?_
              refine SL.y (op_move rfl) rfl rfl ?_
              refine SL.nil ?_
              -- cut
              exact T.backW (l.length - (k + 1)) (by omega) ⟨k + 1, rfl, by omega, hY1, rfl, by rw [show cvB l i j (k + 1) = cvB l i j k by rw [cvB_succ, decide_eq_false (show ¬ k ≠ j by omega)]; simp]⟩ (by repeat (first | exact Sub.nil | refine Sub.cons rfl ?_))
            · refine T.seq ?_
              refine T.region ?_
              first | refine SL.y (op_lssT rfl rfl (by omega)) rfl rfl ?_ | refine SL.y (op_lssF rfl rfl (by omega)) rfl rfl ?_ | refine SL.y (op_lss rfl rfl) rfl rfl ?_
              refine SL.nil ?_
              refine T.seq ?_
              refine T.condT rfl ?_
              refine T.skip ?_
              refine T.seq ?_
              refine T.block ?_
              refine T.seq ?_
              refine T.region ?_
              refine SL.y (op_move rfl) rfl rfl ?_
              refine SL.y (op_assign rfl) rfl rfl ?_
              refine SL.nil ?_
              refine T.seq ?_
              refine T.region ?_
              refine SL.y (op_move rfl) rfl rfl ?_
              refine SL.y (op_move rfl) rfl rfl ?_
              first | refine SL.y (op_neqT rfl rfl (by omega)) rfl rfl ?_ | refine SL.y (op_neqF rfl rfl (by omega)) rfl rfl ?_ | refine SL.y (op_neq rfl rfl) rfl rfl ?_
              refine SL.y (op_move rfl) rfl rfl ?_
              first | refine SL.skip rfl rfl ?_ | refine SL.y (op_move rfl) rfl rfl ?_
              first | refine SL.skip rfl rfl ?_ | refine SL.y (op_move rfl) rfl rfl ?_
              first | refine SL.skip rfl rfl ?_ | refine SL.y (op_neqT rfl rfl (by omega)) rfl rfl ?_ | refine SL.y (op_neqF rfl rfl (by omega)) rfl rfl ?_ | refine SL.y (op_neq rfl rfl) rfl rfl ?_
              first | refine SL.y (op_pickT rfl rfl) rfl rfl ?_ | refine SL.y (op_pickF rfl rfl) rfl rfl ?_ | refine SL.y (op_pickB rfl rfl rfl) rfl rfl ?_
              refine SL.y (op_move rfl) rfl rfl ?_
              first | refine SL.skip rfl rfl ?_ | refine SL.y (op_move rfl) rfl rfl ?_
              first | refine SL.skip rfl rfl ?_ | refine SL.y (op_move rfl) rfl rfl ?_
              first | refine SL.skip rfl rfl ?_ | refine SL.y (op_move rfl) rfl rfl ?_
              -- op
              refine SL.x (op_callF en22 (vs := [_, _, _]) rfl (leq46_spec (hh.mono hY1) i k (by omega) (by omega))) rfl rfl ?_
              rintro _ _ Y2 ⟨rfl, hY2, rfl⟩
              cases g1 : leqR l i k with
              | false =>
                first | refine SL.y (op_pickT rfl rfl) rfl rfl ?_ | refine SL.y (op_pickF rfl rfl) rfl rfl ?_ | refine SL.y (op_pickB rfl rfl rfl) rfl rfl ?_
                refine SL.y (op_move rfl) rfl rfl ?_
                first | refine SL.skip rfl rfl ?_ | refine SL.y (op_move rfl) rfl rfl ?_
                first | refine SL.skip rfl rfl ?_ | refine SL.y (op_move rfl) rfl rfl ?_
                first | refine SL.skip rfl rfl ?_ | refine SL.y (op_move rfl) rfl rfl ?_
                -- op
                refine SL.skip rfl rfl ?_
                first | refine SL.y (op_pickT rfl rfl) rfl rfl ?_ | refine SL.y (op_pickF rfl rfl) rfl rfl ?_ | refine SL.y (op_pickB rfl rfl rfl) rfl rfl ?_
                refine SL.nil ?_
                refine T.condF rfl ?_
                refine T.skip ?_
                refine T.blk ?_
                refine T.region ?_
                first | refine SL.y (op_addN (q := 1) rfl rfl (by omega)) rfl rfl ?_ | refine SL.y (op_add rfl rfl (by omega) (by omega)) rfl rfl ?_ | refine SL.y (op_addW rfl rfl) rfl rfl ?_
                refine SL.y (op_move rfl) rfl rfl ?_
                refine SL.nil ?_
                -- cut
                exact T.backW (l.length - (k + 1)) (by omega) ⟨k + 1, rfl, by omega, hY1.trans' hY2, rfl, by rw [show cvB l i j (k + 1) = cvB l i j k by rw [cvB_succ, g1]; simp]⟩ (by repeat (first | exact Sub.nil | refine Sub.cons rfl ?_))
              | true =>
                first | refine SL.y (op_pickT rfl rfl) rfl rfl ?_ | refine SL.y (op_pickF rfl rfl) rfl rfl ?_ | refine SL.y (op_pickB rfl rfl rfl) rfl rfl ?_
                refine SL.y (op_move rfl) rfl rfl ?_
                first | refine SL.skip rfl rfl ?_ | refine SL.y (op_move rfl) rfl rfl ?_
                first | refine SL.skip rfl rfl ?_ | refine SL.y (op_move rfl) rfl rfl ?_
                first | refine SL.skip rfl rfl ?_ | refine SL.y (op_move rfl) rfl rfl ?_
                -- op
                refine SL.x (op_callF en22 (vs := [_, _, _]) rfl (leq46_spec ((hh.mono hY1).mono hY2) k j (by omega) (by omega))) rfl rfl ?_
                rintro _ _ Y3 ⟨rfl, hY3, rfl⟩
                cases g2 : leqR l k j with
                | false =>
                  first | refine SL.y (op_pickT rfl rfl) rfl rfl ?_ | refine SL.y (op_pickF rfl rfl) rfl rfl ?_ | refine SL.y (op_pickB rfl rfl rfl) rfl rfl ?_
                  refine SL.nil ?_
                  refine T.condF rfl ?_
                  refine T.skip ?_
                  refine T.blk ?_
                  refine T.region ?_
                  first | refine SL.y (op_addN (q := 1) rfl rfl (by omega)) rfl rfl ?_ | refine SL.y (op_add rfl rfl (by omega) (by omega)) rfl rfl ?_ | refine SL.y (op_addW rfl rfl) rfl rfl ?_
                  refine SL.y (op_move rfl) rfl rfl ?_
                  refine SL.nil ?_
                  -- cut
                  exact T.backW (l.length - (k + 1)) (by omega) ⟨k + 1, rfl, by omega, (hY1.trans' hY2).trans' hY3, rfl, by rw [show cvB l i j (k + 1) = cvB l i j k by rw [cvB_succ, g2]; simp]⟩ (by repeat (first | exact Sub.nil | refine Sub.cons rfl ?_))
                | true =>
                  first | refine SL.y (op_pickT rfl rfl) rfl rfl ?_ | refine SL.y (op_pickF rfl rfl) rfl rfl ?_ | refine SL.y (op_pickB rfl rfl rfl) rfl rfl ?_
                  refine SL.nil ?_
                  refine T.condT rfl ?_
                  refine T.region ?_
                  refine SL.y (op_assign rfl) rfl rfl ?_
                  refine SL.nil ?_
                  refine T.blk ?_
                  refine T.region ?_
                  first | refine SL.y (op_addN (q := 1) rfl rfl (by omega)) rfl rfl ?_ | refine SL.y (op_add rfl rfl (by omega) (by omega)) rfl rfl ?_ | refine SL.y (op_addW rfl rfl) rfl rfl ?_
                  refine SL.y (op_move rfl) rfl rfl ?_
                  refine SL.nil ?_
                  -- cut
                  exact T.backW (l.length - (k + 1)) (by omega) ⟨k + 1, rfl, by omega, (hY1.trans' hY2).trans' hY3, rfl, by rw [show cvB l i j (k + 1) = false by rw [cvB_succ, g1, g2]; simp [q1, q2]]⟩ (by repeat (first | exact Sub.nil | refine Sub.cons rfl ?_))
        · obtain rfl : k = l.length := by omega
          have c1 := cvI_len l i
          have c2 := cvJ_len l i j
          have c3 : i * l.length ≤ l.length * l.length := Nat.mul_le_mul_right _ hi
          have c4 : l.length * l.length ≤ 1024 * 1024 := Nat.mul_le_mul (by omega) (by omega)
          cases hb : cvB l i j l.length with
          | true =>
            refine T.seq ?_
            refine T.region ?_
            first | refine SL.y (op_lssT rfl rfl (by omega)) rfl rfl ?_ | refine SL.y (op_lssF rfl rfl (by omega)) rfl rfl ?_ | refine SL.y (op_lss rfl rfl) rfl rfl ?_
            refine SL.nil ?_
            refine T.seq ?_
            refine T.condF rfl ?_
            refine T.exit (T.exitCode (T.exitCut (T.exitBlk ?_)))
            refine T.seq ?_
            refine T.region ?_
            refine SL.y (op_move rfl) rfl rfl ?_
            refine SL.nil ?_
            refine T.condT rfl ?_
            refine T.region ?_
            refine SL.y (op_move rfl) rfl rfl ?_
            refine SL.y (op_move rfl) rfl rfl ?_
            refine SL.y (op_move rfl) rfl rfl ?_
            refine SL.y (op_buildA (size := 1) Tryd.underlying57 z57 (by kernel_rfl) (qs := [(0, _), (1, _)]) rfl rfl rfl) rfl rfl ?_
            refine SL.x (op_buildSlice Tryd.underlying54 bs57 (qs := [(0, _)]) rfl rfl rfl rfl rfl) rfl rfl ?_
            rintro _ _ _ ⟨B58, rfl, rfl, rfl⟩
            -- op
            refine SL.x (op_appendG (own0 := []) sl54 rfl hG rfl rfl rfl (by (have : maxLen = 9223372036854775807 := rfl); rw [List.length_append]; omega) (by rw [List.length_append]; omega)) rfl rfl ?_
            rintro s' _ _ ⟨G', rfl, rfl, hG'⟩
            refine SL.y (op_assign rfl) rfl rfl ?_
            refine SL.nil ?_
            refine T.blk ?_
            refine T.region ?_
            first | refine SL.y (op_addN (q := 1) rfl rfl (by omega)) rfl rfl ?_ | refine SL.y (op_add rfl rfl (by omega) (by omega)) rfl rfl ?_ | refine SL.y (op_addW rfl rfl) rfl rfl ?_
            refine SL.y (op_move rfl) rfl rfl ?_
            refine SL.nil ?_
            -- cut
            exact T.backW (l.length - (j + 1)) (by omega) ⟨j + 1, s', rfl, by omega, hY1, by rw [cvJ_succ, hb, ← List.append_assoc, pairC_append _ (if true = true then _ else _)]; simpa [pairC, csets, vcells, Nat.add_assoc] using hG', rfl⟩ (by repeat (first | exact Sub.nil | refine Sub.cons rfl ?_))
          | false =>
            refine T.seq ?_
            refine T.region ?_
            first | refine SL.y (op_lssT rfl rfl (by omega)) rfl rfl ?_ | refine SL.y (op_lssF rfl rfl (by omega)) rfl rfl ?_ | refine SL.y (op_lss rfl rfl) rfl rfl ?_
            refine SL.nil ?_
            refine T.seq ?_
            refine T.condF rfl ?_
            refine T.exit (T.exitCode (T.exitCut (T.exitBlk ?_)))
            refine T.seq ?_
            refine T.region ?_
            refine SL.y (op_move rfl) rfl rfl ?_
            refine SL.nil ?_
            refine T.condF rfl ?_
            refine T.skip ?_
            refine T.blk ?_
            refine T.region ?_
            first | refine SL.y (op_addN (q := 1) rfl rfl (by omega)) rfl rfl ?_ | refine SL.y (op_add rfl rfl (by omega) (by omega)) rfl rfl ?_ | refine SL.y (op_addW rfl rfl) rfl rfl ?_
            refine SL.y (op_move rfl) rfl rfl ?_
            refine SL.nil ?_
            -- cut
            exact T.backW (l.length - (j + 1)) (by omega) ⟨j + 1, s, rfl, by omega, hY1, by rw [cvJ_succ, hb]; simpa using hG, rfl⟩ (by repeat (first | exact Sub.nil | refine Sub.cons rfl ?_))
      · refine T.seq ?_
        refine T.region ?_
        first | refine SL.y (op_lssT rfl rfl (by omega)) rfl rfl ?_ | refine SL.y (op_lssF rfl rfl (by omega)) rfl rfl ?_ | refine SL.y (op_lss rfl rfl) rfl rfl ?_
        refine SL.nil ?_
        refine T.seq ?_
        refine T.condT rfl ?_
        refine T.skip ?_
        refine T.seq ?_
        refine T.block ?_
        refine T.seq ?_
        refine T.region ?_
        refine SL.y (op_move rfl) rfl rfl ?_
        refine SL.y (op_assign rfl) rfl rfl ?_
        refine SL.nil ?_
        refine T.seq ?_
        refine T.region ?_
        refine SL.y (op_move rfl) rfl rfl ?_
        refine SL.y (op_move rfl) rfl rfl ?_
        first | refine SL.y (op_neqT rfl rfl (by omega)) rfl rfl ?_ | refine SL.y (op_neqF rfl rfl (by omega)) rfl rfl ?_ | refine SL.y (op_neq rfl rfl) rfl rfl ?_
        refine SL.y (op_move rfl) rfl rfl ?_
        first | refine SL.skip rfl rfl ?_ | refine SL.y (op_move rfl) rfl rfl ?_
        first | refine SL.skip rfl rfl ?_ | refine SL.y (op_move rfl) rfl rfl ?_
        first | refine SL.skip rfl rfl ?_ | refine SL.y (op_move rfl) rfl rfl ?_
        -- op
        refine SL.x (op_callF en22 (vs := [_, _, _]) rfl (leq46_spec (hh.mono hX4) i j (by omega) (by omega))) rfl rfl ?_
        rintro _ _ X5 ⟨rfl, hX5, rfl⟩
        first | refine SL.y (op_pickT rfl rfl) rfl rfl ?_ | refine SL.y (op_pickF rfl rfl) rfl rfl ?_ | refine SL.y (op_pickB rfl rfl rfl) rfl rfl ?_
        refine SL.y (op_assign rfl) rfl rfl ?_
        refine SL.nil ?_
        refine T.seq ?_
        refine T.seq ?_
        refine T.region ?_
        refine SL.y (op_move rfl) rfl rfl ?_
        refine SL.y (op_lenS Tryd.underlying29 rfl) rfl rfl ?_
        refine SL.y (op_move (v := .int .i64 ((0 : Nat) : Int)) rfl) rfl rfl ?_
        refine SL.nil ?_
        refine T.block ?_
        -- loop live [0, 2, 3, 4, 5, 6, 10, 15, 28, 29]
        have hs0 : cvB l i j 0 = leqR l i j := by simp [cvB, hij]
        refine T.loopW (fun m env own X' => ∃ (k : Nat), m = l.length - k ∧ k ≤ l.length ∧ X.le X' ∧ G = own ∧ env = [(0, .slice A l.length cp), (3, s), (4, .int .i64 (i : Int)), (5, .int .i64 (j : Int)), (6, .bool (cvB l i j k)), (9, .int .i64 (l.length : Int)), (10, .int .i64 (i : Int)), (14, .int .i64 (l.length : Int)), (15, .int .i64 (j : Int)), (28, .int .i64 (l.length : Int)), (29, .int .i64 (k : Int))]) l.length ⟨0, by simp, by omega, hX4.trans' hX5, rfl, by rw [hs0]⟩ (by repeat (first | exact Sub.nil | refine Sub.cons rfl ?_)) ?_
        rintro m _ _ Y1 ⟨k, rfl, hk, hY1, rfl, rfl⟩
        rcases Nat.lt_or_ge k l.length with hkl | hkl
        · skip
          by_cases q1 : k = i
          · skip
            refine T.seq ?_
            refine T.region ?_
            first | refine SL.y (op_lssT rfl rfl (by omega)) rfl rfl ?_ | refine SL.y (op_lssF rfl rfl (by omega)) rfl rfl ?_ | refine SL.y (op_lss rfl rfl) rfl rfl ?_
            refine SL.nil ?_
            refine T.seq ?_
            refine T.condT rfl ?_
            refine T.skip ?_
            refine T.seq ?_
            refine T.block ?_
            refine T.seq ?_
            refine T.region ?_
            refine SL.y (op_move rfl) rfl rfl ?_
            refine SL.y (op_assign rfl) rfl rfl ?_
            refine SL.nil ?_
            refine T.seq ?_
            refine T.region ?_
            refine SL.y (op_move rfl) rfl rfl ?_
            refine SL.y (op_move rfl) rfl rfl ?_
            first | refine SL.y (op_neqT rfl rfl (by omega)) rfl rfl ?_ | refine SL.y (op_neqF rfl rfl (by omega)) rfl rfl ?_ | refine SL.y (op_neq rfl rfl) rfl rfl ?_
            refine SL.y (op_move rfl) rfl rfl ?_
            first | refine SL.skip rfl rfl ?_ | refine SL.y (op_move rfl) rfl rfl ?_
            first | refine SL.skip rfl rfl ?_ | refine SL.y (op_move rfl) rfl rfl ?_
            first | refine SL.skip rfl rfl ?_ | refine SL.y (op_neqT rfl rfl (by omega)) rfl rfl ?_ | refine SL.y (op_neqF rfl rfl (by omega)) rfl rfl ?_ | refine SL.y (op_neq rfl rfl) rfl rfl ?_
            first | refine SL.y (op_pickT rfl rfl) rfl rfl ?_ | refine SL.y (op_pickF rfl rfl) rfl rfl ?_ | refine SL.y (op_pickB rfl rfl rfl) rfl rfl ?_
            refine SL.y (op_move rfl) rfl rfl ?_
            first | refine SL.skip rfl rfl ?_ | refine SL.y (op_move rfl) rfl rfl ?_
            first | refine SL.skip rfl rfl ?_ | refine SL.y (op_move rfl) rfl rfl ?_
            first | refine SL.skip rfl rfl ?_ | refine SL.y (op_move rfl) rfl rfl ?_
            -- op
            refine SL.skip rfl rfl ?_
            first | refine SL.y (op_pickT rfl rfl) rfl rfl ?_ | refine SL.y (op_pickF rfl rfl) rfl rfl ?_ | refine SL.y (op_pickB rfl rfl rfl) rfl rfl ?_
            refine SL.y (op_move rfl) rfl rfl ?_
            first | refine SL.skip rfl rfl ?_ | refine SL.y (op_move rfl) rfl rfl ?_
            first | refine SL.skip rfl rfl ?_ | refine SL.y (op_move rfl) rfl rfl ?_
            first | refine SL.skip rfl rfl ?_ | refine SL.y (op_move rfl) rfl rfl ?_
            -- op
            refine SL.skip rfl rfl ?_
            first | refine SL.y (op_pickT rfl rfl) rfl rfl ?_ | refine SL.y (op_pickF rfl rfl) rfl rfl ?_ | refine SL.y (op_pickB rfl rfl rfl) rfl rfl ?_
            refine SL.nil ?_
            refine T.condF rfl ?_
            refine T.skip ?_
            refine T.blk ?_
            refine T.region ?_
            first | refine SL.y (op_addN (q := 1) rfl rfl (by omega)) rfl rfl ?_ | refine SL.y (op_add rfl rfl (by omega) (by omega)) rfl rfl ?_ | refine SL.y (op_addW rfl rfl) rfl rfl ?_
            refine SL.y (op_move rfl) rfl rfl ?_
            refine SL.nil ?_
            -- cut
            exact T.backW (l.length - (k + 1)) (by omega) ⟨k + 1, rfl, by omega, hY1, rfl, by rw [show cvB l i j (k + 1) = cvB l i j k by rw [cvB_succ, decide_eq_false (show ¬ k ≠ i by omega)]; simp]⟩ (by repeat (first | exact Sub.nil | refine Sub.cons rfl ?_))
          · by_cases q2 : k = j
            · skip
              refine T.seq ?_
              refine T.region ?_
              first | refine SL.y (op_lssT rfl rfl (by omega)) rfl rfl ?_ | refine SL.y (op_lssF rfl rfl (by omega)) rfl rfl ?_ | refine SL.y (op_lss rfl rfl) rfl rfl ?_
              refine SL.nil ?_
              refine T.seq ?_
              refine T.condT rfl ?_
              refine T.skip ?_
              refine T.seq ?_
              refine T.block ?_
              refine T.seq ?_
              refine T.region ?_
              refine SL.y (op_move rfl) rfl rfl ?_
              refine SL.y (op_assign rfl) rfl rfl ?_
              refine SL.nil ?_
              refine T.seq ?_
              refine T.region ?_
              refine SL.y (op_move rfl) rfl rfl ?_
              refine SL.y (op_move rfl) rfl rfl ?_
              first | refine SL.y (op_neqT rfl rfl (by omega)) rfl rfl ?_ | refine SL.y (op_neqF rfl rfl (by omega)) rfl rfl ?_ | refine SL.y (op_neq rfl rfl) rfl rfl ?_
              refine SL.y (op_move rfl) rfl rfl ?_
              first | refine SL.skip rfl rfl ?_ | refine SL.y (op_move rfl) rfl rfl ?_
              first | refine SL.skip rfl rfl ?_ | refine SL.y (op_move rfl) rfl rfl ?_
              first | refine SL.skip rfl rfl ?_ | refine SL.y (op_neqT rfl rfl (by omega)) rfl rfl ?_ | refine SL.y (op_neqF rfl rfl (by omega)) rfl rfl ?_ | refine SL.y (op_neq rfl rfl) rfl rfl ?_
              first | refine SL.y (op_pickT rfl rfl) rfl rfl ?_ | refine SL.y (op_pickF rfl rfl) rfl rfl ?_ | refine SL.y (op_pickB rfl rfl rfl) rfl rfl ?_
              refine SL.y (op_move rfl) rfl rfl ?_
              first | refine SL.skip rfl rfl ?_ | refine SL.y (op_move rfl) rfl rfl ?_
              first | refine SL.skip rfl rfl ?_ | refine SL.y (op_move rfl) rfl rfl ?_
              first | refine SL.skip rfl rfl ?_ | refine SL.y (op_move rfl) rfl rfl ?_
              -- op
              refine SL.skip rfl rfl ?_
              first | refine SL.y (op_pickT rfl rfl) rfl rfl ?_ | refine SL.y (op_pickF rfl rfl) rfl rfl ?_ | refine SL.y (op_pickB rfl rfl rfl) rfl rfl ?_
              refine SL.y (op_move rfl) rfl rfl ?_
              first | refine SL.skip rfl rfl ?_ | refine SL.y (op_move rfl) rfl rfl ?_
              first | refine SL.skip rfl rfl ?_ | refine SL.y (op_move rfl) rfl rfl ?_
              first | refine SL.skip rfl rfl ?_ | refine SL.y (op_move rfl) rfl rfl ?_
              -- op
              refine SL.skip rfl rfl ?_
              first | refine SL.y (op_pickT rfl rfl) rfl rfl ?_ | refine SL.y (op_pickF rfl rfl) rfl rfl ?_ | refine SL.y (op_pickB rfl rfl rfl) rfl rfl ?_
              refine SL.nil ?_
              refine T.condF rfl ?_
              refine T.skip ?_
              refine T.blk ?_
              refine T.region ?_
              first | refine SL.y (op_addN (q := 1) rfl rfl (by omega)) rfl rfl ?_ | refine SL.y (op_add rfl rfl (by omega) (by omega)) rfl rfl ?_ | refine SL.y (op_addW rfl rfl) rfl rfl ?_
              refine SL.y (op_move rfl) rfl rfl ?_
              refine SL.nil ?_
              -- cut
              exact T.backW (l.length - (k + 1)) (by omega) ⟨k + 1, rfl, by omega, hY1, rfl, by rw [show cvB l i j (k + 1) = cvB l i j k by rw [cvB_succ, decide_eq_false (show ¬ k ≠ j by omega)]; simp]⟩ (by repeat (first | exact Sub.nil | refine Sub.cons rfl ?_))
            · refine T.seq ?_
              refine T.region ?_
              first | refine SL.y (op_lssT rfl rfl (by omega)) rfl rfl ?_ | refine SL.y (op_lssF rfl rfl (by omega)) rfl rfl ?_ | refine SL.y (op_lss rfl rfl) rfl rfl ?_
              refine SL.nil ?_
              refine T.seq ?_
              refine T.condT rfl ?_
              refine T.skip ?_
              refine T.seq ?_
              refine T.block ?_
              refine T.seq ?_
              refine T.region ?_
              refine SL.y (op_move rfl) rfl rfl ?_
              refine SL.y (op_assign rfl) rfl rfl ?_
              refine SL.nil ?_
              refine T.seq ?_
              refine T.region ?_
              refine SL.y (op_move rfl) rfl rfl ?_
              refine SL.y (op_move rfl) rfl rfl ?_
              first | refine SL.y (op_neqT rfl rfl (by omega)) rfl rfl ?_ | refine SL.y (op_neqF rfl rfl (by omega)) rfl rfl ?_ | refine SL.y (op_neq rfl rfl) rfl rfl ?_
              refine SL.y (op_move rfl) rfl rfl ?_
              first | refine SL.skip rfl rfl ?_ | refine SL.y (op_move rfl) rfl rfl ?_
              first | refine SL.skip rfl rfl ?_ | refine SL.y (op_move rfl) rfl rfl ?_
              first | refine SL.skip rfl rfl ?_ | refine SL.y (op_neqT rfl rfl (by omega)) rfl rfl ?_ | refine SL.y (op_neqF rfl rfl (by omega)) rfl rfl ?_ | refine SL.y (op_neq rfl rfl) rfl rfl ?_
              first | refine SL.y (op_pickT rfl rfl) rfl rfl ?_ | refine SL.y (op_pickF rfl rfl) rfl rfl ?_ | refine SL.y (op_pickB rfl rfl rfl) rfl rfl ?_
              refine SL.y (op_move rfl) rfl rfl ?_
              first | refine SL.skip rfl rfl ?_ | refine SL.y (op_move rfl) rfl rfl ?_
              first | refine SL.skip rfl rfl ?_ | refine SL.y (op_move rfl) rfl rfl ?_
              first | refine SL.skip rfl rfl ?_ | refine SL.y (op_move rfl) rfl rfl ?_
              -- op
              refine SL.x (op_callF en22 (vs := [_, _, _]) rfl (leq46_spec (hh.mono hY1) i k (by omega) (by omega))) rfl rfl ?_
              rintro _ _ Y2 ⟨rfl, hY2, rfl⟩
              cases g1 : leqR l i k with
              | false =>
                first | refine SL.y (op_pickT rfl rfl) rfl rfl ?_ | refine SL.y (op_pickF rfl rfl) rfl rfl ?_ | refine SL.y (op_pickB rfl rfl rfl) rfl rfl ?_
                refine SL.y (op_move rfl) rfl rfl ?_
                first | refine SL.skip rfl rfl ?_ | refine SL.y (op_move rfl) rfl rfl ?_
                first | refine SL.skip rfl rfl ?_ | refine SL.y (op_move rfl) rfl rfl ?_
                first | refine SL.skip rfl rfl ?_ | refine SL.y (op_move rfl) rfl rfl ?_
                -- op
                refine SL.skip rfl rfl ?_
                first | refine SL.y (op_pickT rfl rfl) rfl rfl ?_ | refine SL.y (op_pickF rfl rfl) rfl rfl ?_ | refine SL.y (op_pickB rfl rfl rfl) rfl rfl ?_
                refine SL.nil ?_
                refine T.condF rfl ?_
                refine T.skip ?_
                refine T.blk ?_
                refine T.region ?_
                first | refine SL.y (op_addN (q := 1) rfl rfl (by omega)) rfl rfl ?_ | refine SL.y (op_add rfl rfl (by omega) (by omega)) rfl rfl ?_ | refine SL.y (op_addW rfl rfl) rfl rfl ?_
                refine SL.y (op_move rfl) rfl rfl ?_
                refine SL.nil ?_
                -- cut
                exact T.backW (l.length - (k + 1)) (by omega) ⟨k + 1, rfl, by omega, hY1.trans' hY2, rfl, by rw [show cvB l i j (k + 1) = cvB l i j k by rw [cvB_succ, g1]; simp]⟩ (by repeat (first | exact Sub.nil | refine Sub.cons rfl ?_))
              | true =>
                first | refine SL.y (op_pickT rfl rfl) rfl rfl ?_ | refine SL.y (op_pickF rfl rfl) rfl rfl ?_ | refine SL.y (op_pickB rfl rfl rfl) rfl rfl ?_
                refine SL.y (op_move rfl) rfl rfl ?_
                first | refine SL.skip rfl rfl ?_ | refine SL.y (op_move rfl) rfl rfl ?_
                first | refine SL.skip rfl rfl ?_ | refine SL.y (op_move rfl) rfl rfl ?_
                first | refine SL.skip rfl rfl ?_ | refine SL.y (op_move rfl) rfl rfl ?_
                -- op
                refine SL.x (op_callF en22 (vs := [_, _, _]) rfl (leq46_spec ((hh.mono hY1).mono hY2) k j (by omega) (by omega))) rfl rfl ?_
                rintro _ _ Y3 ⟨rfl, hY3, rfl⟩
                cases g2 : leqR l k j with
                | false =>
                  first | refine SL.y (op_pickT rfl rfl) rfl rfl ?_ | refine SL.y (op_pickF rfl rfl) rfl rfl ?_ | refine SL.y (op_pickB rfl rfl rfl) rfl rfl ?_
                  refine SL.nil ?_
                  refine T.condF rfl ?_
                  refine T.skip ?_
                  refine T.blk ?_
                  refine T.region ?_
                  first | refine SL.y (op_addN (q := 1) rfl rfl (by omega)) rfl rfl ?_ | refine SL.y (op_add rfl rfl (by omega) (by omega)) rfl rfl ?_ | refine SL.y (op_addW rfl rfl) rfl rfl ?_
                  refine SL.y (op_move rfl) rfl rfl ?_
                  refine SL.nil ?_
                  -- cut
                  exact T.backW (l.length - (k + 1)) (by omega) ⟨k + 1, rfl, by omega, (hY1.trans' hY2).trans' hY3, rfl, by rw [show cvB l i j (k + 1) = cvB l i j k by rw [cvB_succ, g2]; simp]⟩ (by repeat (first | exact Sub.nil | refine Sub.cons rfl ?_))
                | true =>
                  first | refine SL.y (op_pickT rfl rfl) rfl rfl ?_ | refine SL.y (op_pickF rfl rfl) rfl rfl ?_ | refine SL.y (op_pickB rfl rfl rfl) rfl rfl ?_
                  refine SL.nil ?_
                  refine T.condT rfl ?_
                  refine T.region ?_
                  refine SL.y (op_assign rfl) rfl rfl ?_
                  refine SL.nil ?_
                  refine T.blk ?_
                  refine T.region ?_
                  first | refine SL.y (op_addN (q := 1) rfl rfl (by omega)) rfl rfl ?_ | refine SL.y (op_add rfl rfl (by omega) (by omega)) rfl rfl ?_ | refine SL.y (op_addW rfl rfl) rfl rfl ?_
                  refine SL.y (op_move rfl) rfl rfl ?_
                  refine SL.nil ?_
                  -- cut
                  exact T.backW (l.length - (k + 1)) (by omega) ⟨k + 1, rfl, by omega, (hY1.trans' hY2).trans' hY3, rfl, by rw [show cvB l i j (k + 1) = false by rw [cvB_succ, g1, g2]; simp [q1, q2]]⟩ (by repeat (first | exact Sub.nil | refine Sub.cons rfl ?_))
        · obtain rfl : k = l.length := by omega
          have c1 := cvI_len l i
          have c2 := cvJ_len l i j
          have c3 : i * l.length ≤ l.length * l.length := Nat.mul_le_mul_right _ hi
          have c4 : l.length * l.length ≤ 1024 * 1024 := Nat.mul_le_mul (by omega) (by omega)
          cases hb : cvB l i j l.length with
          | true =>
            refine T.seq ?_
            refine T.region ?_
            first | refine SL.y (op_lssT rfl rfl (by omega)) rfl rfl ?_ | refine SL.y (op_lssF rfl rfl (by omega)) rfl rfl ?_ | refine SL.y (op_lss rfl rfl) rfl rfl ?_
            refine SL.nil ?_
            refine T.seq ?_
            refine T.condF rfl ?_
            refine T.exit (T.exitCode (T.exitCut (T.exitBlk ?_)))
            refine T.seq ?_
            refine T.region ?_
            refine SL.y (op_move rfl) rfl rfl ?_
            refine SL.nil ?_
            refine T.condT rfl ?_
            refine T.region ?_
            refine SL.y (op_move rfl) rfl rfl ?_
            refine SL.y (op_move rfl) rfl rfl ?_
            refine SL.y (op_move rfl) rfl rfl ?_
            refine SL.y (op_buildA (size := 1) Tryd.underlying57 z57 (by kernel_rfl) (qs := [(0, _), (1, _)]) rfl rfl rfl) rfl rfl ?_
            refine SL.x (op_buildSlice Tryd.underlying54 bs57 (qs := [(0, _)]) rfl rfl rfl rfl rfl) rfl rfl ?_
            rintro _ _ _ ⟨B58, rfl, rfl, rfl⟩
            -- op
            refine SL.x (op_appendG (own0 := []) sl54 rfl hG rfl rfl rfl (by (have : maxLen = 9223372036854775807 := rfl); rw [List.length_append]; omega) (by rw [List.length_append]; omega)) rfl rfl ?_
            rintro s' _ _ ⟨G', rfl, rfl, hG'⟩
            refine SL.y (op_assign rfl) rfl rfl ?_
            refine SL.nil ?_
            refine T.blk ?_
            refine T.region ?_
            first | refine SL.y (op_addN (q := 1) rfl rfl (by omega)) rfl rfl ?_ | refine SL.y (op_add rfl rfl (by omega) (by omega)) rfl rfl ?_ | refine SL.y (op_addW rfl rfl) rfl rfl ?_
            refine SL.y (op_move rfl) rfl rfl ?_
            refine SL.nil ?_
            -- cut
            exact T.backW (l.length - (j + 1)) (by omega) ⟨j + 1, s', rfl, by omega, hY1, by rw [cvJ_succ, hb, ← List.append_assoc, pairC_append _ (if true = true then _ else _)]; simpa [pairC, csets, vcells, Nat.add_assoc] using hG', rfl⟩ (by repeat (first | exact Sub.nil | refine Sub.cons rfl ?_))
          | false =>
            refine T.seq ?_
            refine T.region ?_
            first | refine SL.y (op_lssT rfl rfl (by omega)) rfl rfl ?_ | refine SL.y (op_lssF rfl rfl (by omega)) rfl rfl ?_ | refine SL.y (op_lss rfl rfl) rfl rfl ?_
            refine SL.nil ?_
            refine T.seq ?_
            refine T.condF rfl ?_
            refine T.exit (T.exitCode (T.exitCut (T.exitBlk ?_)))
            refine T.seq ?_
            refine T.region ?_
            refine SL.y (op_move rfl) rfl rfl ?_
            refine SL.nil ?_
            refine T.condF rfl ?_
            refine T.skip ?_
            refine T.blk ?_
            refine T.region ?_
            first | refine SL.y (op_addN (q := 1) rfl rfl (by omega)) rfl rfl ?_ | refine SL.y (op_add rfl rfl (by omega) (by omega)) rfl rfl ?_ | refine SL.y (op_addW rfl rfl) rfl rfl ?_
            refine SL.y (op_move rfl) rfl rfl ?_
            refine SL.nil ?_
            -- cut
            exact T.backW (l.length - (j + 1)) (by omega) ⟨j + 1, s, rfl, by omega, hY1, by rw [cvJ_succ, hb]; simpa using hG, rfl⟩ (by repeat (first | exact Sub.nil | refine Sub.cons rfl ?_))
    · obtain rfl : j = l.length := by omega
      refine T.seq ?_
      refine T.region ?_
      first | refine SL.y (op_lssT rfl rfl (by omega)) rfl rfl ?_ | refine SL.y (op_lssF rfl rfl (by omega)) rfl rfl ?_ | refine SL.y (op_lss rfl rfl) rfl rfl ?_
      refine SL.nil ?_
      refine T.seq ?_
      refine T.condF rfl ?_
      refine T.exit (T.exitCode (T.exitCut (T.exitBlk ?_)))
      refine T.blk ?_
      refine T.region ?_
      first | refine SL.y (op_addN (q := 1) rfl rfl (by omega)) rfl rfl ?_ | refine SL.y (op_add rfl rfl (by omega) (by omega)) rfl rfl ?_ | refine SL.y (op_addW rfl rfl) rfl rfl ?_
      refine SL.y (op_move rfl) rfl rfl ?_
      refine SL.nil ?_
      -- cut
      exact T.backW (l.length - (i + 1)) (by omega) ⟨i + 1, s, rfl, by omega, hX4, by rw [cvI_succ]; exact hG, rfl⟩ (by repeat (first | exact Sub.nil | refine Sub.cons rfl ?_))
  · obtain rfl : i = l.length := by omega
    refine T.seq ?_
    refine T.region ?_
    first | refine SL.y (op_lssT rfl rfl (by omega)) rfl rfl ?_ | refine SL.y (op_lssF rfl rfl (by omega)) rfl rfl ?_ | refine SL.y (op_lss rfl rfl) rfl rfl ?_
    refine SL.nil ?_
    refine T.seq ?_
    refine T.condF rfl ?_
    refine T.exit (T.exitCode (T.exitCut (T.exitBlk ?_)))
    refine T.seq ?_
    refine T.region ?_
    refine SL.y (op_move rfl) rfl rfl ?_
    refine SL.y (op_assign rfl) rfl rfl ?_
    refine SL.nil ?_
    -- ret
    refine T.pubG (own0 := []) hG ?_
    intro X3 hX3 hS3
    refine T.ret1 rfl (ResIs.tmp rfl) ?_
    exact hS3
def idxR (l : List (Nat × Nat)) (cols : Nat) : Option Nat := (List.range l.length).find? fun k => decide ((l.getD k (0, 0)).2 = cols)
theorem index46_spec {X : PMap} {v : Value} {l : List (Nat × Nat)} (h : ConT X v l) (cols : Nat) : Spec Tryd.prog 35 [v, .int .u64 (cols : Int)] X fun u _ => u = .int .i64 (optI (idxR l cols)) := by
  obtain ⟨hS, hl, _⟩ := h
  obtain ⟨A, cp, rfl⟩ := hS.form
  refine Spec.enter Tryd.func35 rfl Tryd.ntmps35 rfl ?_
  intro w0 hw0
  refine T.seq ?_
  refine T.region ?_
  refine SL.y (op_assign (v := .int .i64 ((0 : Nat) : Int)) rfl) rfl rfl ?_
  refine SL.nil ?_
  refine T.seq ?_
  refine T.seq ?_
  refine T.region ?_
  refine SL.y (op_move rfl) rfl rfl ?_
  refine SL.y (op_lenS Tryd.underlying29 rfl) rfl rfl ?_
  refine SL.y (op_move (v := .int .i64 ((0 : Nat) : Int)) rfl) rfl rfl ?_
  refine SL.nil ?_
  refine T.block ?_
  -- loop live [1, 4, 7, 8, 9]
  refine T.loopW (fun m env own X' => ∃ k : Nat, m = l.length - k ∧ k ≤ l.length ∧ X.le X' ∧ (∀ q, q < k → decide ((l.getD q (0, 0)).2 = cols) = false) ∧ env = [(0, .slice A l.length cp), (1, .int .u64 (cols : Int)), (7, .slice A l.length cp), (8, .int .i64 (l.length : Int)), (9, .int .i64 (k : Int))] ∧ own = []) l.length ⟨0, by simp, by omega, PMap.le_refl _, (fun q hq => by omega), rfl, rfl⟩ (by repeat (first | exact Sub.nil | refine Sub.cons rfl ?_)) ?_
  rintro m _ _ X1 ⟨k, rfl, hk, hX1, hno, rfl, rfl⟩
  rcases Nat.lt_or_ge k l.length with hkl | hkl
  · obtain ⟨bo, rfl, hBo⟩ := (hS.mono hX1).blk (by omega)
    obtain ⟨g1, g2⟩ := conC_get l k hkl
    have hgd : l.getD k (0, 0) = l[k] := by simp [hkl]
    refine T.seq ?_
    refine T.region ?_
    first | refine SL.y (op_lssT rfl rfl (by omega)) rfl rfl ?_ | refine SL.y (op_lssF rfl rfl (by omega)) rfl rfl ?_ | refine SL.y (op_lss rfl rfl) rfl rfl ?_
    refine SL.nil ?_
    refine T.seq ?_
    refine T.condT rfl ?_
    refine T.skip ?_
    refine T.seq ?_
    refine T.block ?_
    refine T.seq ?_
    refine T.region ?_
    refine SL.y (op_move rfl) rfl rfl ?_
    first | refine SL.y (op_indexN Tryd.underlying29 ty75 rfl rfl (by omega)) rfl rfl ?_ | refine SL.y (op_index Tryd.underlying29 ty75 rfl rfl (by omega) (by omega)) rfl rfl ?_
    -- to 13: op
    refine SL.y (op_loadX ty75 rfl hBo (creadR2 g1 g2 (by omega))) rfl rfl ?_
    by_cases he : l[k].2 = cols
    · skip
      refine SL.x (op_alloc z75) rfl rfl ?_
      rintro _ _ _ ⟨B6, rfl, rfl, rfl⟩
      refine SL.y (op_assign rfl) rfl rfl ?_
      refine SL.x (op_store ty75 rfl rfl (by repeat (first | exact AtO.here | apply AtO.there)) rfl rfl rfl) rfl rfl ?_
      rintro _ _ _ ⟨rfl, rfl⟩
      refine SL.nil ?_
      refine T.seq ?_
      refine T.region ?_
      refine SL.y (op_fieldAddr fa75_1 rfl) rfl rfl ?_
      first | refine SL.y (op_load ty64 rfl (by repeat (first | exact AtO.here | apply AtO.there)) rfl) rfl rfl ?_ | refine SL.y (op_loadX ty64 rfl (by assumption) rfl) rfl rfl ?_
      refine SL.y (op_move rfl) rfl rfl ?_
      first | refine SL.y (op_eqlT rfl rfl (by omega)) rfl rfl ?_ | refine SL.y (op_eqlF rfl rfl (by omega)) rfl rfl ?_ | refine SL.y (op_eql rfl rfl) rfl rfl ?_
      refine SL.nil ?_
      refine T.condT rfl ?_
      refine T.seq ?_
      refine T.region ?_
      refine SL.y (op_move rfl) rfl rfl ?_
      refine SL.y (op_assign rfl) rfl rfl ?_
      refine SL.nil ?_
      -- ret
      refine T.ret1 rfl (ResIs.tmp rfl) ?_
      rw [idxR, find_first hkl (by rw [hgd, he]; simp) hno]
      rfl
    · refine SL.x (op_alloc z75) rfl rfl ?_
      rintro _ _ _ ⟨B6, rfl, rfl, rfl⟩
      refine SL.y (op_assign rfl) rfl rfl ?_
      refine SL.x (op_store ty75 rfl rfl (by repeat (first | exact AtO.here | apply AtO.there)) rfl rfl rfl) rfl rfl ?_
      rintro _ _ _ ⟨rfl, rfl⟩
      refine SL.nil ?_
      refine T.seq ?_
      refine T.region ?_
      refine SL.y (op_fieldAddr fa75_1 rfl) rfl rfl ?_
      first | refine SL.y (op_load ty64 rfl (by repeat (first | exact AtO.here | apply AtO.there)) rfl) rfl rfl ?_ | refine SL.y (op_loadX ty64 rfl (by assumption) rfl) rfl rfl ?_
      refine SL.y (op_move rfl) rfl rfl ?_
      first | refine SL.y (op_eqlT rfl rfl (by omega)) rfl rfl ?_ | refine SL.y (op_eqlF rfl rfl (by omega)) rfl rfl ?_ | refine SL.y (op_eql rfl rfl) rfl rfl ?_
      refine SL.nil ?_
      refine T.condF rfl ?_
      refine T.skip ?_
      refine T.blk ?_
      refine T.region ?_
      first | refine SL.y (op_addN (q := 1) rfl rfl (by omega)) rfl rfl ?_ | refine SL.y (op_add rfl rfl (by omega) (by omega)) rfl rfl ?_ | refine SL.y (op_addW rfl rfl) rfl rfl ?_
      refine SL.y (op_move rfl) rfl rfl ?_
      refine SL.nil ?_
      -- cut
      refine T.drop B6 (by repeat (first | exact AtO.here | apply AtO.there)) ?_
      exact T.backW (l.length - (k + 1)) (by omega) ⟨k + 1, rfl, by omega, hX1, no_more hno (by rw [hgd]; simp [he]), rfl, rfl⟩ (by repeat (first | exact Sub.nil | refine Sub.cons rfl ?_))
  · obtain rfl : k = l.length := by omega
    refine T.seq ?_
    refine T.region ?_
    first | refine SL.y (op_lssT rfl rfl (by omega)) rfl rfl ?_ | refine SL.y (op_lssF rfl rfl (by omega)) rfl rfl ?_ | refine SL.y (op_lss rfl rfl) rfl rfl ?_
    refine SL.nil ?_
    refine T.seq ?_
    refine T.condF rfl ?_
    refine T.exit (T.exitCode (T.exitCut (T.exitBlk ?_)))
    refine T.seq ?_
    refine T.region ?_
    refine SL.y (op_assign rfl) rfl rfl ?_
    refine SL.nil ?_
    -- ret
    refine T.ret1 rfl (ResIs.tmp rfl) ?_
    rw [idxR, find_not hno]
    rfl
theorem lists46_spec {X : PMap} (r c : Nat) (hr : r < 18446744073709551616) (hc : c < 18446744073709551616) : Spec Tryd.prog 46 [.agg #[.int .u64 (r : Int), .int .u64 (c : Int)]] X fun u X' => ∃ x y, u = .tuple #[x, y] ∧ SliceR X' x (mem64 r).length (ints (mem64 r)) ∧ SliceR X' y (mem64 c).length (ints (mem64 c)) := by
  refine Spec.enter Tryd.func46 rfl Tryd.ntmps46 rfl ?_
  intro w0 hw0
  refine T.seq ?_
  refine T.region ?_
  refine SL.x (op_box rfl) rfl rfl ?_
  rintro _ _ _ ⟨B1, rfl, rfl, rfl⟩
  refine SL.y (op_assign rfl) rfl rfl ?_
  refine SL.y (op_assign rfl) rfl rfl ?_
  refine SL.nil ?_
  refine T.seq ?_
  refine T.draw (by kernel_rfl) 8 [.t 0, .t 1, .t 3, .t 4, .r 2, .r 5, .t 6, .t 7] (by kernel_rfl) ?_
  refine SD.take rfl panicBody (op_fieldAddr fa75_0 rfl) rfl rfl ?_
  first | refine SD.take rfl panicBody (op_load ty64 rfl (by repeat (first | exact AtO.here | apply AtO.there)) rfl) rfl rfl ?_ | refine SD.take rfl panicBody (op_loadX ty64 rfl (by assumption) rfl) rfl rfl ?_
  refine SD.take rfl panicBody (op_fieldAddr fa75_1 rfl) rfl rfl ?_
  first | refine SD.take rfl panicBody (op_load ty64 rfl (by repeat (first | exact AtO.here | apply AtO.there)) rfl) rfl rfl ?_ | refine SD.take rfl panicBody (op_loadX ty64 rfl (by assumption) rfl) rfl rfl ?_
  -- op
  refine SD.run rfl (op_callF en65 (vs := [_]) rfl (members_spec r hr)) rfl rfl ?_
  rintro _ _ X1 ⟨u1, hX1, h1⟩
  -- op
  refine SD.run rfl (op_callF en65 (vs := [_]) rfl (members_spec c hc)) rfl rfl ?_
  rintro _ _ X2 ⟨u2, hX2, h2⟩
  refine SD.take rfl panicBody (op_assign rfl) rfl rfl ?_
  refine SD.take rfl panicBody (op_assign rfl) rfl rfl ?_
  refine SD.nil ?_
  show SL _ _ _ _ _ _ _ [] _ _ _
  refine SL.nil ?_
  -- ret
  refine T.ret2 rfl (ResIs.tmp rfl) (ResIs.tmp rfl) ?_
  exact ⟨_, _, rfl, h1.mono hX2, h2⟩
theorem shr_bit (n i : Nat) : (n >>> i) % 2 = (n.testBit i).toNat := by
  have := bit_dec n i
  cases hb : n.testBit i with
  | true =>
    rw [hb] at this
    have := of_decide_eq_true this
    simp only [Bool.toNat_true]
    omega
  | false =>
    rw [hb] at this
    have := of_decide_eq_false this
    simp only [Bool.toNat_false]
    omega
theorem before46_spec {X : PMap} (a b : Nat) (_ha : a < 18446744073709551616) (_hb : b < 18446744073709551616) : Spec Tryd.prog 86 [.int .u64 (a : Int), .int .u64 (b : Int)] X fun u _ => u = .bool (befB a b) := by
  refine Spec.enter Tryd.func86 rfl Tryd.ntmps86 rfl ?_
  intro w0 hw0
  refine T.seq ?_
  refine T.region ?_
  refine SL.y (op_assign rfl) rfl rfl ?_
  refine SL.nil ?_
  refine T.seq ?_
  refine T.seq ?_
  refine T.region ?_
  refine SL.y (op_assign (v := .int .i64 ((0 : Nat) : Int)) rfl) rfl rfl ?_
  refine SL.nil ?_
  refine T.block ?_
  -- loop live [0, 1, 4, 5]
  refine T.loopW (fun m env own X' => ∃ k : Nat, m = 64 - k ∧ k ≤ 64 ∧ X.le X' ∧ (∀ q, q < k → (a.testBit q != b.testBit q) = false) ∧ env = [(0, .int .u64 (a : Int)), (1, .int .u64 (b : Int)), (5, .int .i64 (k : Int))] ∧ own = []) 64 ⟨0, by simp, by omega, PMap.le_refl _, (fun q hq => by omega), rfl, rfl⟩ (by repeat (first | exact Sub.nil | refine Sub.cons rfl ?_)) ?_
  rintro m _ _ X1 ⟨k, rfl, hk, hX1, hno, rfl, rfl⟩
  have ea := shr_bit a k
  have eb := shr_bit b k
  rcases Nat.lt_or_ge k 64 with hkl | hkl
  · skip
    refine T.seq ?_
    refine T.seq ?_
    refine T.region ?_
    refine SL.y (op_move rfl) rfl rfl ?_
    first | refine SL.y (op_lssT rfl rfl (by omega)) rfl rfl ?_ | refine SL.y (op_lssF rfl rfl (by omega)) rfl rfl ?_ | refine SL.y (op_lss rfl rfl) rfl rfl ?_
    refine SL.nil ?_
    refine T.condT rfl ?_
    refine T.skip ?_
    refine T.seq ?_
    refine T.block ?_
    refine T.seq ?_
    refine T.draw (by kernel_rfl) 10 [.t 0, .t 1, .t 2, .t 3, .t 4, .t 5, .t 6, .t 7, .t 8, .t 9] (by kernel_rfl) ?_
    refine SD.take rfl panicBody (op_move rfl) rfl rfl ?_
    refine SD.take rfl panicBody (op_move rfl) rfl rfl ?_
    first | refine SD.take rfl panicBody (op_shrN rfl rfl (by omega)) rfl rfl ?_ | refine SD.take rfl panicBody (op_shr rfl rfl) rfl rfl ?_
    -- to 15: op
    refine SD.take rfl panicBody (op_remN (q := 2) rfl rfl rfl (by decide)) rfl rfl ?_
    rw [ea]
    refine SD.take rfl panicBody (op_move rfl) rfl rfl ?_
    refine SD.take rfl panicBody (op_move rfl) rfl rfl ?_
    first | refine SD.take rfl panicBody (op_shrN rfl rfl (by omega)) rfl rfl ?_ | refine SD.take rfl panicBody (op_shr rfl rfl) rfl rfl ?_
    -- to 19: op
    refine SD.take rfl panicBody (op_remN (q := 2) rfl rfl rfl (by decide)) rfl rfl ?_
    rw [eb]
    cases h1 : a.testBit k <;> cases h2 : b.testBit k
    · skip
      refine SD.take rfl panicBody (op_assign rfl) rfl rfl ?_
      refine SD.take rfl panicBody (op_assign rfl) rfl rfl ?_
      refine SD.nil ?_
      show SL _ _ _ _ _ _ _ [] _ _ _
      refine SL.nil ?_
      refine T.seq ?_
      refine T.region ?_
      refine SL.y (op_move rfl) rfl rfl ?_
      refine SL.y (op_move rfl) rfl rfl ?_
      first | refine SL.y (op_neqT rfl rfl (by omega)) rfl rfl ?_ | refine SL.y (op_neqF rfl rfl (by omega)) rfl rfl ?_ | refine SL.y (op_neq rfl rfl) rfl rfl ?_
      refine SL.nil ?_
      refine T.condF rfl ?_
      refine T.skip ?_
      refine T.blk ?_
      refine T.region ?_
      refine SL.y (op_move rfl) rfl rfl ?_
      first | refine SL.y (op_addN (q := 1) rfl rfl (by omega)) rfl rfl ?_ | refine SL.y (op_add rfl rfl (by omega) (by omega)) rfl rfl ?_ | refine SL.y (op_addW rfl rfl) rfl rfl ?_
      refine SL.y (op_assign rfl) rfl rfl ?_
      refine SL.nil ?_
      -- cut
      exact T.backW (64 - (k + 1)) (by omega) ⟨k + 1, rfl, by omega, hX1, no_more hno (by rw [h1, h2]; rfl), rfl, rfl⟩ (by repeat (first | exact Sub.nil | refine Sub.cons rfl ?_))
    · skip
      refine SD.take rfl panicBody (op_assign rfl) rfl rfl ?_
      refine SD.take rfl panicBody (op_assign rfl) rfl rfl ?_
      refine SD.nil ?_
      show SL _ _ _ _ _ _ _ [] _ _ _
      refine SL.nil ?_
      refine T.seq ?_
      refine T.region ?_
      refine SL.y (op_move rfl) rfl rfl ?_
      refine SL.y (op_move rfl) rfl rfl ?_
      first | refine SL.y (op_neqT rfl rfl (by omega)) rfl rfl ?_ | refine SL.y (op_neqF rfl rfl (by omega)) rfl rfl ?_ | refine SL.y (op_neq rfl rfl) rfl rfl ?_
      refine SL.nil ?_
      refine T.condT rfl ?_
      refine T.seq ?_
      refine T.region ?_
      refine SL.y (op_move rfl) rfl rfl ?_
      first | refine SL.y (op_eqlT rfl rfl (by omega)) rfl rfl ?_ | refine SL.y (op_eqlF rfl rfl (by omega)) rfl rfl ?_ | refine SL.y (op_eql rfl rfl) rfl rfl ?_
      refine SL.y (op_assign rfl) rfl rfl ?_
      refine SL.nil ?_
      -- ret
      refine T.ret1 rfl (ResIs.tmp rfl) ?_
      rw [befB, find_first hkl (by rw [h1, h2]; rfl) hno]
      exact congrArg _ h2.symm
    · skip
      refine SD.take rfl panicBody (op_assign rfl) rfl rfl ?_
      refine SD.take rfl panicBody (op_assign rfl) rfl rfl ?_
      refine SD.nil ?_
      show SL _ _ _ _ _ _ _ [] _ _ _
      refine SL.nil ?_
      refine T.seq ?_
      refine T.region ?_
      refine SL.y (op_move rfl) rfl rfl ?_
      refine SL.y (op_move rfl) rfl rfl ?_
      first | refine SL.y (op_neqT rfl rfl (by omega)) rfl rfl ?_ | refine SL.y (op_neqF rfl rfl (by omega)) rfl rfl ?_ | refine SL.y (op_neq rfl rfl) rfl rfl ?_
      refine SL.nil ?_
      refine T.condT rfl ?_
      refine T.seq ?_
      refine T.region ?_
      refine SL.y (op_move rfl) rfl rfl ?_
      first | refine SL.y (op_eqlT rfl rfl (by omega)) rfl rfl ?_ | refine SL.y (op_eqlF rfl rfl (by omega)) rfl rfl ?_ | refine SL.y (op_eql rfl rfl) rfl rfl ?_
      refine SL.y (op_assign rfl) rfl rfl ?_
      refine SL.nil ?_
      -- ret
      refine T.ret1 rfl (ResIs.tmp rfl) ?_
      rw [befB, find_first hkl (by rw [h1, h2]; rfl) hno]
      exact congrArg _ h2.symm
    · refine SD.take rfl panicBody (op_assign rfl) rfl rfl ?_
      refine SD.take rfl panicBody (op_assign rfl) rfl rfl ?_
      refine SD.nil ?_
      show SL _ _ _ _ _ _ _ [] _ _ _
      refine SL.nil ?_
      refine T.seq ?_
      refine T.region ?_
      refine SL.y (op_move rfl) rfl rfl ?_
      refine SL.y (op_move rfl) rfl rfl ?_
      first | refine SL.y (op_neqT rfl rfl (by omega)) rfl rfl ?_ | refine SL.y (op_neqF rfl rfl (by omega)) rfl rfl ?_ | refine SL.y (op_neq rfl rfl) rfl rfl ?_
      refine SL.nil ?_
      refine T.condF rfl ?_
      refine T.skip ?_
      refine T.blk ?_
      refine T.region ?_
      refine SL.y (op_move rfl) rfl rfl ?_
      first | refine SL.y (op_addN (q := 1) rfl rfl (by omega)) rfl rfl ?_ | refine SL.y (op_add rfl rfl (by omega) (by omega)) rfl rfl ?_ | refine SL.y (op_addW rfl rfl) rfl rfl ?_
      refine SL.y (op_assign rfl) rfl rfl ?_
      refine SL.nil ?_
      -- cut
      exact T.backW (64 - (k + 1)) (by omega) ⟨k + 1, rfl, by omega, hX1, no_more hno (by rw [h1, h2]; rfl), rfl, rfl⟩ (by repeat (first | exact Sub.nil | refine Sub.cons rfl ?_))
  · obtain rfl : k = 64 := by omega
    refine T.seq ?_
    refine T.seq ?_
    refine T.region ?_
    refine SL.y (op_move rfl) rfl rfl ?_
    first | refine SL.y (op_lssT rfl rfl (by omega)) rfl rfl ?_ | refine SL.y (op_lssF rfl rfl (by omega)) rfl rfl ?_ | refine SL.y (op_lss rfl rfl) rfl rfl ?_
    refine SL.nil ?_
    refine T.condF rfl ?_
    refine T.exit (T.exitCode (T.exitCut (T.exitBlk ?_)))
    refine T.seq ?_
    refine T.region ?_
    refine SL.y (op_assign rfl) rfl rfl ?_
    refine SL.nil ?_
    -- ret
    refine T.ret1 rfl (ResIs.tmp rfl) ?_
    rw [befB, find_not hno]
end Go.Proofs.YtoheffglppbcbaaDoor
