/- NEIGHBOURS: the lattice's pairs are the reference's. -/
import Derived.Test.YtoheffglppbcbaaDoorEnds
namespace Go.Proofs.YtoheffglppbcbaaDoor
open Go.RowKit
theorem lessM_eq {c : Nat} {ms : List Nat} (hr : ms.length < 64) (hc : c < 6) {i j : Nat} (hi : i < (allC c ms).length) (hj : j < (allC c ms).length) : lessM (allR c ms) (i : Int) (j : Int) = (decide (i ≠ j) && leqR (allR c ms) i j) := by
  rw [lessM, leq_eq hr hc hi hj]
  congr 1
  exact decide_eq_decide.2 (by omega)
theorem cov_eq {c : Nat} {ms : List Nat} (hr : ms.length < 64) (hc : c < 6) {i j : Nat} (hi : i < (allC c ms).length) (hj : j < (allC c ms).length) : (!betB (allR c ms) i j (allR c ms).length) = cvB (allR c ms) i j (allR c ms).length := by
  have e := allR_lenC (ms := ms) hr hc
  rw [betB, cvB, lessM_eq hr hc hi hj, Bool.not_or, Bool.not_not]
  congr 1
  rw [List.not_any_eq_all_not]
  refine bool_eq ?_
  simp only [List.all_eq_true, List.mem_range]
  refine forall_congr' fun q => forall_congr' fun hq => ?_
  rw [lessM_eq hr hc hi (by omega), lessM_eq hr hc (by omega) hj]
  have e1 : decide (i ≠ q) = decide (q ≠ i) := decide_eq_decide.2 ⟨fun h => h.symm, fun h => h.symm⟩
  rw [e1]
  cases decide (q ≠ i) <;> cases decide (q ≠ j) <;> cases leqR (allR c ms) i q <;> cases leqR (allR c ms) q j <;> simp
theorem covers_eq {c : Nat} {ms : List Nat} (hr : ms.length < 64) (hc : c < 6) : coversM (allR c ms) = coversR (allR c ms) := by
  have e := allR_lenC (ms := ms) hr hc
  rw [coversM, coversR, covI, cvI, List.flatMap_def, List.flatMap_def]
  congr 1
  refine List.map_congr_left fun i hi => ?_
  rw [covJ, cvJ]
  congr 1
  refine List.filter_congr fun j hj => ?_
  exact cov_eq hr hc (by have := List.mem_range.1 hi; omega) (by have := List.mem_range.1 hj; omega)
theorem coversM_len (l : List (Nat × Nat)) (h : l.length ≤ 32) : (coversM l).length ≤ 1024 := by
  have h1 := covI_len l l.length
  have h2 : l.length * l.length ≤ 32 * 32 := Nat.mul_le_mul h h
  rw [coversM]
  omega
end Go.Proofs.YtoheffglppbcbaaDoor
