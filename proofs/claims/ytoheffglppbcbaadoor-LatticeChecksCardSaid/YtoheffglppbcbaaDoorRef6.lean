/- THE PROGRAM's MATRIX made of the reference's (arbaclaw44.Matrix). -/
import Derived.Test.YtoheffglppbcbaaDoorRef5
namespace Go.Proofs.YtoheffglppbcbaaDoor
section
set_option maxRecDepth 100000
theorem bs47 : ∃ i z, Tryd.prog.info? 47 = some i ∧ i.size = 1 ∧ i.zero = some z ∧ z.cells = ([.slice none 0 0] : List Value).toArray := bs_of (by kernel_rfl)
theorem en53 : Enters Tryd.prog 53 := enters_mk Tryd.func53 (by kernel_rfl) rfl
theorem en83 : Enters Tryd.prog 83 := enters_mk Tryd.func83 (by kernel_rfl) rfl
theorem sl59 : SlT Tryd.prog 59 47 1 24 := ⟨Tryd.underlying59, sl_of (by kernel_rfl) (by decide)⟩
end
open Go.RowKit
theorem rowL_mask {c : Nat} {ms : List Nat} {i : Nat} (hi : i < ms.length) (hlt : ms[i] < 2 ^ c) : maskOf (rowL c ms (i : Int) c) = ms[i] := by
  apply Nat.eq_of_testBit_eq
  intro j
  rw [maskOf_testBit]
  by_cases hj : j < c
  · have : (0 : Int) ≤ (i : Int) ∧ (i : Int) < ms.length ∧ (0 : Int) ≤ (j : Int) ∧ (j : Int) < c := by omega
    simp [rowL, hj, elemB, insideB, this, hi]
  · have h1 : j ∉ rowL c ms (i : Int) c := fun h => hj (rowL_lt h)
    have h2 : ms[i].testBit j = false := Nat.testBit_lt_two_pow (Nat.lt_of_lt_of_le hlt (Nat.pow_le_pow_right (by omega) (by omega)))
    simp [h1, h2]
theorem SetsR.snoc {X : PMap} {cs : List Value} {ms : List Nat} (h : SetsR X cs ms) {x : Value} {m : Nat} (hx : SetR X (.agg #[x]) m) : SetsR X (cs ++ [x]) (ms ++ [m]) := by
  refine ⟨by simp [h.1], fun i q hq => ?_⟩
  rcases Nat.lt_or_ge i ms.length with hi | hi
  · rw [List.getElem?_append_left hi] at hq
    obtain ⟨c, h1, h2⟩ := h.2 i q hq
    exact ⟨c, by rw [List.getElem?_append_left (by have := h.1; omega)]; exact h1, h2⟩
  · have hl := (List.getElem?_eq_some_iff.1 hq).1
    simp at hl
    obtain rfl : i = ms.length := by omega
    have : q = m := by simpa using hq.symm
    subst this
    exact ⟨x, by rw [← h.1]; simp, hx⟩
theorem within_of_lt {m c : Nat} (h : m < 2 ^ c) (hc : c < 64) : withinB m (2 ^ c - 1) = true := by
  have hp : 2 ^ c < 18446744073709551616 := Nat.pow_lt_pow_right (a := 2) (by omega) hc
  have hp0 : 0 < 2 ^ c := Nat.pow_pos (by omega)
  simp only [withinB, decide_eq_true_eq]
  apply Nat.eq_of_testBit_eq
  intro j
  rw [Nat.testBit_and, Nat.zero_testBit, show 18446744073709551615 - (2 ^ c - 1) = 2 ^ 64 - (2 ^ c - 1 + 1) by omega, Nat.testBit_two_pow_sub_succ (by omega), Nat.testBit_two_pow_sub_one]
  by_cases hj : j < c
  · simp [hj]
  · rw [Nat.testBit_lt_two_pow (Nat.lt_of_lt_of_le h (Nat.pow_le_pow_right (by omega) (by omega)))]
    simp
theorem matrix44_spec {X : PMap} {v : Value} {c : Nat} {ms : List Nat} (h : M44R X v c ms) (hr : ms.length < 64) (hc : c < 64) (hall : ∀ m ∈ ms, m < 2 ^ c) : Spec Tryd.prog 56 [v] X fun u X' => MatR X' u c ms := by
  have hh := h
  obtain ⟨s, cs, rfl, hS, hl, hrow⟩ := h
  obtain ⟨As, cps, rfl⟩ := hS.form
  refine Spec.enter Tryd.func56 rfl Tryd.ntmps56 rfl ?_
  intro w0 hw0
  refine T.seq ?_
  refine T.region ?_
  refine SL.x (op_box rfl) rfl rfl ?_
  rintro _ _ _ ⟨B1, rfl, rfl, rfl⟩
  refine SL.y (op_assign rfl) rfl rfl ?_
  refine SL.nil ?_
  refine T.seq ?_
  refine T.region ?_
  refine SL.y (op_assign rfl) rfl rfl ?_
  refine SL.nil ?_
  refine T.seq ?_
  refine T.seq ?_
  refine T.region ?_
  refine SL.y (op_fieldAddr fa91_1 rfl) rfl rfl ?_
  first | refine SL.y (op_load ty89 rfl (by repeat (first | exact AtO.here | apply AtO.there)) rfl) rfl rfl ?_ | refine SL.y (op_loadX ty89 rfl (by assumption) rfl) rfl rfl ?_
  refine SL.y (op_lenS Tryd.underlying89 rfl) rfl rfl ?_
  refine SL.y (op_move (v := .int .i64 ((0 : Nat) : Int)) rfl) rfl rfl ?_
  refine SL.nil ?_
  refine T.block ?_
  -- loop live [1, 2, 3, 9, 10]
  refine T.loopW (fun m env own X' => ∃ (k : Nat) (s : Value) (G : Own) (cs : List Value), m = ms.length - k ∧ k ≤ ms.length ∧ X.le X' ∧ GrowS 47 1 s k cs G ∧ SetsR X' cs (ms.take k) ∧ env = [(1, .pointer (some ⟨B1, 0, none⟩)), (3, s), (9, .int .i64 (ms.length : Int)), (10, .int .i64 (k : Int))] ∧ own = ⟨B1, [.int .i64 (c : Int), .slice As ms.length cps], 91, 2⟩ :: G) ms.length ⟨0, _, _, [], by simp, by omega, PMap.le_refl _, GrowS.nil, ⟨rfl, fun i m h => by simp at h⟩, rfl, rfl⟩ (by repeat (first | exact Sub.nil | refine Sub.cons rfl ?_)) ?_
  rintro m _ _ X1 ⟨k, s, G, cs', rfl, hk, hX1, hG, hC, rfl, rfl⟩
  rcases Nat.lt_or_ge k ms.length with hkl | hkl
  · skip
    refine T.seq ?_
    refine T.region ?_
    first | refine SL.y (op_lssT rfl rfl (by omega)) rfl rfl ?_ | refine SL.y (op_lssF rfl rfl (by omega)) rfl rfl ?_ | refine SL.y (op_lss rfl rfl) rfl rfl ?_
    refine SL.nil ?_
    refine T.seq ?_
    refine T.condT rfl ?_
    refine T.skip ?_
    refine T.seq ?_
    refine T.block ?_
    refine T.seq ?_
    refine T.region ?_
    refine SL.y (op_move rfl) rfl rfl ?_
    refine SL.y (op_assign rfl) rfl rfl ?_
    refine SL.nil ?_
    refine T.region ?_
    refine SL.y (op_move rfl) rfl rfl ?_
    first | refine SL.y (op_load ty91 rfl (by repeat (first | exact AtO.here | apply AtO.there)) rfl) rfl rfl ?_ | refine SL.y (op_loadX ty91 rfl (by assumption) rfl) rfl rfl ?_
    refine SL.y (op_move rfl) rfl rfl ?_
    -- op
    refine SL.x (op_callF en83 (vs := [_, _]) rfl (row44_spec (hh.mono hX1) (k : Int) hc)) rfl rfl ?_
    rintro _ _ X3 ⟨rfl, hX3, hS3⟩
    -- op
    refine SL.x (op_callF en30 (vs := [_]) rfl (of_spec hS3 (fun i hi => by have := rowL_lt hi; omega) (by have := rowL_len c ms (k : Int) c; omega))) rfl rfl ?_
    rintro _ _ X4 ⟨rfl, hX4, hS4⟩
    rw [rowL_mask hkl (hall _ (List.getElem_mem hkl))] at hS4
    obtain ⟨A4, l4, c4, rfl⟩ := hS4.form
    refine SL.x (op_buildSlice Tryd.underlying59 bs47 (qs := [(0, _)]) rfl rfl rfl rfl rfl) rfl rfl ?_
    rintro _ _ _ ⟨B18, rfl, rfl, rfl⟩
    -- op
    refine SL.x (op_appendG (own0 := [_]) sl59 rfl hG rfl rfl rfl (by (have : maxLen = 9223372036854775807 := rfl); omega) (by omega)) rfl rfl ?_
    rintro s' _ _ ⟨G', rfl, rfl, hG'⟩
    refine SL.y (op_assign rfl) rfl rfl ?_
    refine SL.nil ?_
    refine T.blk ?_
    refine T.region ?_
    first | refine SL.y (op_addN (q := 1) rfl rfl (by omega)) rfl rfl ?_ | refine SL.y (op_add rfl rfl (by omega) (by omega)) rfl rfl ?_ | refine SL.y (op_addW rfl rfl) rfl rfl ?_
    refine SL.y (op_move rfl) rfl rfl ?_
    refine SL.nil ?_
    -- cut
    exact T.backW (ms.length - (k + 1)) (by omega) ⟨k + 1, s', G', _, rfl, by omega, (hX1.trans' hX3).trans' hX4, hG', by rw [List.take_succ_eq_append_getElem hkl]; exact ((hC.mono hX3).mono hX4).snoc hS4, rfl, rfl⟩ (by repeat (first | exact Sub.nil | refine Sub.cons rfl ?_))
  · obtain rfl : k = ms.length := by omega
    rw [List.take_length] at hC
    refine T.seq ?_
    refine T.region ?_
    first | refine SL.y (op_lssT rfl rfl (by omega)) rfl rfl ?_ | refine SL.y (op_lssF rfl rfl (by omega)) rfl rfl ?_ | refine SL.y (op_lss rfl rfl) rfl rfl ?_
    refine SL.nil ?_
    refine T.seq ?_
    refine T.condF rfl ?_
    refine T.exit (T.exitCode (T.exitCut (T.exitBlk ?_)))
    refine T.seq ?_
    refine T.region ?_
    refine SL.y (op_fieldAddr fa91_0 rfl) rfl rfl ?_
    first | refine SL.y (op_load ty3 rfl (by repeat (first | exact AtO.here | apply AtO.there)) rfl) rfl rfl ?_ | refine SL.y (op_loadX ty3 rfl (by assumption) rfl) rfl rfl ?_
    refine SL.y (op_move rfl) rfl rfl ?_
    -- op
    refine T.pubGAt (own0 := [_]) hG ?_
    intro X3 hX3 hS3
    refine SL.x (op_callF en53 (vs := [_, _]) rfl (mof_spec c hS3 (hC.mono hX3) hr hc (fun m hm => within_of_lt (hall m hm) hc))) rfl rfl ?_
    rintro _ _ X4 ⟨rfl, hX4, w, rfl, hM⟩
    obtain ⟨bm, rfl⟩ := hM.ptr
    refine SL.y (op_move rfl) rfl rfl ?_
    refine SL.y (op_extract rfl rfl) rfl rfl ?_
    refine SL.y (op_extract rfl rfl) rfl rfl ?_
    refine SL.y (op_assign rfl) rfl rfl ?_
    refine SL.y (op_assign rfl) rfl rfl ?_
    refine SL.nil ?_
    refine T.seq ?_
    refine T.seq ?_
    refine T.region ?_
    refine SL.y (op_move rfl) rfl rfl ?_
    first | refine SL.y (op_neqT rfl rfl (by omega)) rfl rfl ?_ | refine SL.y (op_neqF rfl rfl (by omega)) rfl rfl ?_ | refine SL.y (op_neq rfl rfl) rfl rfl ?_
    refine SL.nil ?_
    refine T.condF rfl ?_
    refine T.skip ?_
    refine T.seq ?_
    refine T.region ?_
    refine SL.y (op_move rfl) rfl rfl ?_
    refine SL.y (op_assign rfl) rfl rfl ?_
    refine SL.nil ?_
    -- ret
    refine T.ret1 rfl (ResIs.tmp rfl) ?_
    exact hM
end Go.Proofs.YtoheffglppbcbaaDoor
