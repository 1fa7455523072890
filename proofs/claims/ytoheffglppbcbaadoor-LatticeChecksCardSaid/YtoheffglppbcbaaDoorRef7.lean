/- THE REFERENCE's CLOSURES (arbacref45). -/
import Derived.Test.YtoheffglppbcbaaDoorRef6
namespace Go.Proofs.YtoheffglppbcbaaDoor
section
set_option maxRecDepth 100000
theorem en85 : Enters Tryd.prog 85 := enters_mk Tryd.func85 (by kernel_rfl) rfl
theorem en97 : Enters Tryd.prog 97 := enters_mk Tryd.func97 (by kernel_rfl) rfl
theorem en98 : Enters Tryd.prog 98 := enters_mk Tryd.func98 (by kernel_rfl) rfl
end
open Go.RowKit
/-- The numbers below n of which p holds, as a mask. -/
def maskP (n : Nat) (p : Nat → Bool) : Nat := maskOf ((List.range n).filter p)
theorem maskP_testBit (n : Nat) (p : Nat → Bool) (q : Nat) : (maskP n p).testBit q = (decide (q < n) && p q) := by
  rw [maskP, maskOf_testBit]
  simp
theorem maskP_lt (n : Nat) (p : Nat → Bool) (hn : n ≤ 64) : maskP n p < 18446744073709551616 := maskOf_lt _ fun i hi => by
  simp only [List.mem_filter, List.mem_range] at hi
  omega
theorem maskP_true (n : Nat) : maskP n (fun _ => true) = 2 ^ n - 1 := by
  apply Nat.eq_of_testBit_eq
  intro q
  rw [maskP_testBit, Nat.testBit_two_pow_sub_one]
  simp
theorem clear_testBit {m i q : Nat} (hm : m < 18446744073709551616) (hi : i < 64) : (m &&& (18446744073709551615 - 2 ^ i)).testBit q = (m.testBit q && decide (i ≠ q)) := by
  have hp : 2 ^ i < 18446744073709551616 := Nat.pow_lt_pow_right (a := 2) (by omega) hi
  rw [Nat.testBit_and, show 18446744073709551615 - 2 ^ i = 2 ^ 64 - (2 ^ i + 1) by omega, Nat.testBit_two_pow_sub_succ (by simpa using hp), Nat.testBit_two_pow]
  by_cases hj : m.testBit q = true
  · have h64 : q < 64 := by
      rcases Nat.lt_or_ge q 64 with h | h
      · exact h
      · rw [testBit_big hm h] at hj; cases hj
    simp [hj, h64]
  · simp [hj]
theorem all45_spec {X : PMap} (n : Nat) (hn : n < 64) : Spec Tryd.prog 98 [.int .i64 (n : Int)] X fun u _ => u = .int .u64 ((2 ^ n - 1 : Nat) : Int) := by
  have hp : 2 ^ n < 18446744073709551616 := Nat.pow_lt_pow_right (a := 2) (by omega) hn
  have hp0 : 0 < 2 ^ n := Nat.pow_pos (by omega)
  refine Spec.enter Tryd.func98 rfl Tryd.ntmps98 rfl ?_
  intro w0 hw0
  refine T.seq ?_
  refine T.region ?_
  refine SL.y (op_assign (v := .int .u64 ((0 : Nat) : Int)) rfl) rfl rfl ?_
  refine SL.nil ?_
  refine T.seq ?_
  refine T.region ?_
  refine SL.y (op_move rfl) rfl rfl ?_
  first | refine SL.y (op_bit rfl rfl (by omega)) rfl rfl ?_ | refine SL.y (op_shl rfl rfl) rfl rfl ?_
  first | refine SL.y (op_subU (q := 1) rfl rfl (by omega) (by omega)) rfl rfl ?_ | refine SL.y (op_subW rfl rfl) rfl rfl ?_
  refine SL.y (op_assign rfl) rfl rfl ?_
  refine SL.nil ?_
  -- ret
  refine T.ret1 rfl (ResIs.tmp rfl) ?_
  rfl
/-- Row i has column j. -/
def Rel (ms : List Nat) (i j : Nat) : Bool := (ms.getD i 0).testBit j
def okH (cols : Nat) (ms : List Nat) (q n : Nat) : Bool := (List.range n).all fun j => !cols.testBit j || Rel ms q j
def okC (rows : Nat) (ms : List Nat) (q n : Nat) : Bool := (List.range n).all fun i => !rows.testBit i || Rel ms i q
theorem okH_succ (cols : Nat) (ms : List Nat) (q n : Nat) : okH cols ms q (n + 1) = (okH cols ms q n && (!cols.testBit n || Rel ms q n)) := by
  simp [okH, List.range_succ]
theorem okC_succ (rows : Nat) (ms : List Nat) (q n : Nat) : okC rows ms q (n + 1) = (okC rows ms q n && (!rows.testBit n || Rel ms n q)) := by
  simp [okC, List.range_succ]
def havAt (c cols : Nat) (ms : List Nat) (i j : Nat) : Nat := maskP ms.length fun q => if q < i then okH cols ms q c else if q = i then okH cols ms q j else true
def comAt (c rows : Nat) (ms : List Nat) (i j : Nat) : Nat := maskP c fun q => if q < j then okC rows ms q (i + 1) else okC rows ms q i
def havR (c cols : Nat) (ms : List Nat) : Nat := maskP ms.length fun q => okH cols ms q c
def comR (c rows : Nat) (ms : List Nat) : Nat := maskP c fun q => okC rows ms q ms.length
theorem maskP_congr {n : Nat} {p p' : Nat → Bool} (h : ∀ q, q < n → p q = p' q) : maskP n p = maskP n p' := by
  apply Nat.eq_of_testBit_eq
  intro q
  rw [maskP_testBit, maskP_testBit]
  by_cases hq : q < n
  · simp [hq, h q hq]
  · simp [hq]
theorem havAt_start (c cols : Nat) (ms : List Nat) : havAt c cols ms 0 0 = 2 ^ ms.length - 1 := by
  rw [← maskP_true]
  exact maskP_congr fun q _ => by simp [okH]
theorem havAt_next (c cols : Nat) (ms : List Nat) (i : Nat) : havAt c cols ms i c = havAt c cols ms (i + 1) 0 := maskP_congr fun q _ => by
  rcases Nat.lt_trichotomy q i with h | h | h
  · simp [h, show q < i + 1 by omega]
  · subst h; simp
  · have h1 : ¬ q < i := by omega
    have h2 : ¬ q = i := by omega
    have h3 : ¬ q < i + 1 := by omega
    simp [h1, h2, h3, okH]
theorem havAt_end (c cols : Nat) (ms : List Nat) : havAt c cols ms ms.length 0 = havR c cols ms := maskP_congr fun q hq => by simp [hq]
theorem havAt_same {c cols : Nat} {ms : List Nat} {i j : Nat} (h : (!cols.testBit j || Rel ms i j) = true) : havAt c cols ms i (j + 1) = havAt c cols ms i j := maskP_congr fun q _ => by
  by_cases h1 : q < i
  · simp [h1]
  · by_cases h2 : q = i
    · subst h2; simp [okH_succ, h]
    · simp [h1, h2]
theorem havAt_clear {c cols : Nat} {ms : List Nat} {i j : Nat} (hr : ms.length < 64) (hi : i < 64) (h : (!cols.testBit j || Rel ms i j) = false) : havAt c cols ms i j &&& (18446744073709551615 - 2 ^ i) = havAt c cols ms i (j + 1) := by
  apply Nat.eq_of_testBit_eq
  intro q
  rw [havAt, havAt, clear_testBit (maskP_lt _ _ (by omega)) hi, maskP_testBit, maskP_testBit]
  by_cases h2 : q = i
  · subst h2; simp [okH_succ, h]
  · have : ¬ i = q := fun e => h2 e.symm
    by_cases h1 : q < i <;> simp [h1, h2, this]
theorem comAt_start (c rows : Nat) (ms : List Nat) : comAt c rows ms 0 0 = 2 ^ c - 1 := by
  rw [← maskP_true]
  exact maskP_congr fun q _ => by simp [okC]
theorem comAt_next (c rows : Nat) (ms : List Nat) (i : Nat) : comAt c rows ms i c = comAt c rows ms (i + 1) 0 := maskP_congr fun q hq => by simp [hq]
theorem comAt_end (c rows : Nat) (ms : List Nat) : comAt c rows ms ms.length 0 = comR c rows ms := maskP_congr fun q hq => by simp
theorem comAt_same {c rows : Nat} {ms : List Nat} {i j : Nat} (h : (!rows.testBit i || Rel ms i j) = true) : comAt c rows ms i (j + 1) = comAt c rows ms i j := maskP_congr fun q _ => by
  rcases Nat.lt_trichotomy q j with h1 | h1 | h1
  · simp [h1, show q < j + 1 by omega]
  · subst h1; simp [okC_succ, h]
  · simp [show ¬ q < j by omega, show ¬ q < j + 1 by omega]
theorem comAt_clear {c rows : Nat} {ms : List Nat} {i j : Nat} (hc : c < 64) (hj : j < 64) (h : (!rows.testBit i || Rel ms i j) = false) : comAt c rows ms i j &&& (18446744073709551615 - 2 ^ j) = comAt c rows ms i (j + 1) := by
  apply Nat.eq_of_testBit_eq
  intro q
  rw [comAt, comAt, clear_testBit (maskP_lt _ _ (by omega)) hj, maskP_testBit, maskP_testBit]
  rcases Nat.lt_trichotomy q j with h1 | h1 | h1
  · have : ¬ j = q := by omega
    simp [h1, this, show q < j + 1 by omega]
  · subst h1; simp [okC_succ, h]
  · have : ¬ j = q := by omega
    simp [this, show ¬ q < j by omega, show ¬ q < j + 1 by omega]
theorem having45_spec {X : PMap} {v : Value} {c : Nat} {ms : List Nat} (h : M44R X v c ms) (hr : ms.length < 64) (hc : c < 64) (cols : Nat) (_hcols : cols < 18446744073709551616) : Spec Tryd.prog 85 [v, .int .u64 (cols : Int)] X fun u _ => u = .int .u64 (havR c cols ms : Int) := by
  obtain ⟨s, cs, rfl, hS, hl, hrow⟩ := h
  obtain ⟨As, cps, rfl⟩ := hS.form
  refine Spec.enter Tryd.func85 rfl Tryd.ntmps85 rfl ?_
  intro w0 hw0
  refine T.seq ?_
  refine T.region ?_
  refine SL.x (op_box rfl) rfl rfl ?_
  rintro _ _ _ ⟨B2, rfl, rfl, rfl⟩
  refine SL.y (op_assign (v := .int .u64 ((0 : Nat) : Int)) rfl) rfl rfl ?_
  refine SL.nil ?_
  refine T.seq ?_
  refine T.region ?_
  refine SL.y (op_fieldAddr fa91_1 rfl) rfl rfl ?_
  first | refine SL.y (op_load ty89 rfl (by repeat (first | exact AtO.here | apply AtO.there)) rfl) rfl rfl ?_ | refine SL.y (op_loadX ty89 rfl (by assumption) rfl) rfl rfl ?_
  refine SL.y (op_lenS Tryd.underlying89 rfl) rfl rfl ?_
  -- op
  refine SL.x (op_callF en98 (vs := [_]) rfl (all45_spec ms.length hr)) rfl rfl ?_
  rintro _ _ X1 ⟨rfl, hX1, rfl⟩
  refine SL.y (op_assign rfl) rfl rfl ?_
  refine SL.nil ?_
  refine T.seq ?_
  refine T.seq ?_
  refine T.region ?_
  refine SL.y (op_fieldAddr fa91_1 rfl) rfl rfl ?_
  first | refine SL.y (op_load ty89 rfl (by repeat (first | exact AtO.here | apply AtO.there)) rfl) rfl rfl ?_ | refine SL.y (op_loadX ty89 rfl (by assumption) rfl) rfl rfl ?_
  refine SL.y (op_lenS Tryd.underlying89 rfl) rfl rfl ?_
  refine SL.y (op_move (v := .int .i64 ((0 : Nat) : Int)) rfl) rfl rfl ?_
  refine SL.nil ?_
  refine T.block ?_
  -- loop live [1, 2, 4, 5, 14, 15]
  refine T.loopW (fun m env own X' => ∃ i : Nat, m = ms.length - i ∧ i ≤ ms.length ∧ X.le X' ∧ env = [(1, .int .u64 (cols : Int)), (2, .pointer (some ⟨B2, 0, none⟩)), (5, .int .u64 (havAt c cols ms i 0 : Int)), (14, .int .i64 (ms.length : Int)), (15, .int .i64 (i : Int))] ∧ own = [⟨B2, [.int .i64 (c : Int), .slice As ms.length cps], 91, 2⟩]) ms.length ⟨0, by simp, by omega, hX1, by rw [havAt_start], rfl⟩ (by repeat (first | exact Sub.nil | refine Sub.cons rfl ?_)) ?_
  rintro m _ _ X2 ⟨i, rfl, hi, hX2, rfl, rfl⟩
  rcases Nat.lt_or_ge i ms.length with hir | hir
  · skip
    refine T.seq ?_
    refine T.region ?_
    first | refine SL.y (op_lssT rfl rfl (by omega)) rfl rfl ?_ | refine SL.y (op_lssF rfl rfl (by omega)) rfl rfl ?_ | refine SL.y (op_lss rfl rfl) rfl rfl ?_
    refine SL.nil ?_
    refine T.seq ?_
    refine T.condT rfl ?_
    refine T.skip ?_
    refine T.seq ?_
    refine T.block ?_
    refine T.seq ?_
    refine T.region ?_
    refine SL.y (op_move rfl) rfl rfl ?_
    refine SL.y (op_assign rfl) rfl rfl ?_
    refine SL.nil ?_
    refine T.seq ?_
    refine T.region ?_
    refine SL.y (op_assign (v := .int .i64 ((0 : Nat) : Int)) rfl) rfl rfl ?_
    refine SL.nil ?_
    refine T.block ?_
    -- loop live [1, 2, 4, 5, 6, 7, 15]
    refine T.loopW (fun m env own X' => ∃ j : Nat, m = c - j ∧ j ≤ c ∧ X.le X' ∧ env = [(1, .int .u64 (cols : Int)), (2, .pointer (some ⟨B2, 0, none⟩)), (5, .int .u64 (havAt c cols ms i j : Int)), (6, .int .i64 (i : Int)), (7, .int .i64 (j : Int)), (14, .int .i64 (ms.length : Int)), (15, .int .i64 (i : Int))] ∧ own = [⟨B2, [.int .i64 (c : Int), .slice As ms.length cps], 91, 2⟩]) c ⟨0, by simp, by omega, hX2, rfl, rfl⟩ (by repeat (first | exact Sub.nil | refine Sub.cons rfl ?_)) ?_
    rintro m _ _ X3 ⟨j, rfl, hj, hX3, rfl, rfl⟩
    rcases Nat.lt_or_ge j c with hjc | hjc
    · obtain ⟨bo, rfl, hBo⟩ := (hS.mono hX3).blk (by omega)
      obtain ⟨Ar, cpr, hcell, hR⟩ := hrow i ms[i] (by simp [hir])
      obtain ⟨br, rfl, hBr⟩ := (hR.mono hX3).blk (by omega)
      have hget : (boolsC c ms[i])[j]? = some (.bool (ms[i].testBit j)) := by simp [boolsC, hjc]
      have hrel : Rel ms i j = ms[i].testBit j := by simp [Rel, hir]
      have hl1 : havAt c cols ms i j < 18446744073709551616 := maskP_lt _ _ (by omega)
      have hl2 : 2 ^ i < 18446744073709551616 := Nat.pow_lt_pow_right (a := 2) (by omega) (show _ < 64 by omega)
      refine T.seq ?_
      refine T.seq ?_
      refine T.region ?_
      refine SL.y (op_move rfl) rfl rfl ?_
      refine SL.y (op_fieldAddr fa91_0 rfl) rfl rfl ?_
      first | refine SL.y (op_load ty3 rfl (by repeat (first | exact AtO.here | apply AtO.there)) rfl) rfl rfl ?_ | refine SL.y (op_loadX ty3 rfl (by assumption) rfl) rfl rfl ?_
      first | refine SL.y (op_lssT rfl rfl (by omega)) rfl rfl ?_ | refine SL.y (op_lssF rfl rfl (by omega)) rfl rfl ?_ | refine SL.y (op_lss rfl rfl) rfl rfl ?_
      refine SL.nil ?_
      refine T.condT rfl ?_
      refine T.skip ?_
      refine T.seq ?_
      refine T.block ?_
      refine T.seq ?_
      refine T.region ?_
      refine SL.y (op_move rfl) rfl rfl ?_
      refine SL.y (op_move rfl) rfl rfl ?_
      first | refine SL.y (op_shrN rfl rfl (by omega)) rfl rfl ?_ | refine SL.y (op_shr rfl rfl) rfl rfl ?_
      -- to 27: op
      refine SL.y (op_remN (q := 2) rfl rfl rfl (by decide)) rfl rfl ?_
      refine SL.y (op_eql rfl rfl) rfl rfl ?_
      rw [bit_dec]
      cases hb : cols.testBit j with
      | false =>
        refine SL.y (op_move rfl) rfl rfl ?_
        first | refine SL.skip rfl rfl ?_ | refine SL.y (op_fieldAddr fa91_1 rfl) rfl rfl ?_
        first | refine SL.skip rfl rfl ?_ | refine SL.y (op_load ty89 rfl (by repeat (first | exact AtO.here | apply AtO.there)) rfl) rfl rfl ?_ | refine SL.y (op_loadX ty89 rfl (by assumption) rfl) rfl rfl ?_
        first | refine SL.skip rfl rfl ?_ | refine SL.y (op_move rfl) rfl rfl ?_
        first | refine SL.skip rfl rfl ?_ | refine SL.y (op_indexN Tryd.underlying89 ty123 rfl rfl (by omega)) rfl rfl ?_ | refine SL.y (op_index Tryd.underlying89 ty123 rfl rfl (by omega) (by omega)) rfl rfl ?_
        first | refine SL.skip rfl rfl ?_ | refine SL.y (op_load ty123 rfl (by repeat (first | exact AtO.here | apply AtO.there)) rfl) rfl rfl ?_ | refine SL.y (op_loadX ty123 rfl (by assumption) rfl) rfl rfl ?_
        first | refine SL.skip rfl rfl ?_ | refine SL.y (op_move rfl) rfl rfl ?_
        first | refine SL.skip rfl rfl ?_ | refine SL.y (op_indexN Tryd.underlying123 ty4 rfl rfl (by omega)) rfl rfl ?_ | refine SL.y (op_index Tryd.underlying123 ty4 rfl rfl (by omega) (by omega)) rfl rfl ?_
        first | refine SL.skip rfl rfl ?_ | refine SL.y (op_load ty4 rfl (by repeat (first | exact AtO.here | apply AtO.there)) rfl) rfl rfl ?_ | refine SL.y (op_loadX ty4 rfl (by assumption) rfl) rfl rfl ?_
        first | refine SL.skip rfl rfl ?_ | refine SL.y (op_not rfl) rfl rfl ?_
        first | refine SL.y (op_pickT rfl rfl) rfl rfl ?_ | refine SL.y (op_pickF rfl rfl) rfl rfl ?_ | refine SL.y (op_pickB rfl rfl rfl) rfl rfl ?_
        refine SL.nil ?_
        refine T.condF rfl ?_
        refine T.skip ?_
        refine T.blk ?_
        refine T.region ?_
        refine SL.y (op_move rfl) rfl rfl ?_
        first | refine SL.y (op_addN (q := 1) rfl rfl (by omega)) rfl rfl ?_ | refine SL.y (op_add rfl rfl (by omega) (by omega)) rfl rfl ?_ | refine SL.y (op_addW rfl rfl) rfl rfl ?_
        refine SL.y (op_assign rfl) rfl rfl ?_
        refine SL.nil ?_
        -- cut
        exact T.backW (c - (j + 1)) (by omega) ⟨j + 1, rfl, by omega, hX3, by rw [havAt_same (by simp [hb])], rfl⟩ (by repeat (first | exact Sub.nil | refine Sub.cons rfl ?_))
      | true =>
        refine SL.y (op_move rfl) rfl rfl ?_
        first | refine SL.skip rfl rfl ?_ | refine SL.y (op_fieldAddr fa91_1 rfl) rfl rfl ?_
        first | refine SL.skip rfl rfl ?_ | refine SL.y (op_load ty89 rfl (by repeat (first | exact AtO.here | apply AtO.there)) rfl) rfl rfl ?_ | refine SL.y (op_loadX ty89 rfl (by assumption) rfl) rfl rfl ?_
        first | refine SL.skip rfl rfl ?_ | refine SL.y (op_move rfl) rfl rfl ?_
        first | refine SL.skip rfl rfl ?_ | refine SL.y (op_indexN Tryd.underlying89 ty123 rfl rfl (by omega)) rfl rfl ?_ | refine SL.y (op_index Tryd.underlying89 ty123 rfl rfl (by omega) (by omega)) rfl rfl ?_
        -- to 34: op
        refine SL.y (op_loadX ty123 rfl hBo (cread1 hcell)) rfl rfl ?_
        first | refine SL.skip rfl rfl ?_ | refine SL.y (op_move rfl) rfl rfl ?_
        first | refine SL.skip rfl rfl ?_ | refine SL.y (op_indexN Tryd.underlying123 ty4 rfl rfl (by omega)) rfl rfl ?_ | refine SL.y (op_index Tryd.underlying123 ty4 rfl rfl (by omega) (by omega)) rfl rfl ?_
        -- to 37: op
        refine SL.y (op_loadX ty4 rfl hBr (cread1 hget)) rfl rfl ?_
        cases hm : ms[i].testBit j with
        | true =>
          first | refine SL.skip rfl rfl ?_ | refine SL.y (op_not rfl) rfl rfl ?_
          first | refine SL.y (op_pickT rfl rfl) rfl rfl ?_ | refine SL.y (op_pickF rfl rfl) rfl rfl ?_ | refine SL.y (op_pickB rfl rfl rfl) rfl rfl ?_
          refine SL.nil ?_
          refine T.condF rfl ?_
          refine T.skip ?_
          refine T.blk ?_
          refine T.region ?_
          refine SL.y (op_move rfl) rfl rfl ?_
          first | refine SL.y (op_addN (q := 1) rfl rfl (by omega)) rfl rfl ?_ | refine SL.y (op_add rfl rfl (by omega) (by omega)) rfl rfl ?_ | refine SL.y (op_addW rfl rfl) rfl rfl ?_
          refine SL.y (op_assign rfl) rfl rfl ?_
          refine SL.nil ?_
          -- cut
          exact T.backW (c - (j + 1)) (by omega) ⟨j + 1, rfl, by omega, hX3, by rw [havAt_same (by simp [hrel, hm])], rfl⟩ (by repeat (first | exact Sub.nil | refine Sub.cons rfl ?_))
        | false =>
          first | refine SL.skip rfl rfl ?_ | refine SL.y (op_not rfl) rfl rfl ?_
          first | refine SL.y (op_pickT rfl rfl) rfl rfl ?_ | refine SL.y (op_pickF rfl rfl) rfl rfl ?_ | refine SL.y (op_pickB rfl rfl rfl) rfl rfl ?_
          refine SL.nil ?_
          refine T.condT rfl ?_
          refine T.region ?_
          refine SL.y (op_move rfl) rfl rfl ?_
          refine SL.y (op_move rfl) rfl rfl ?_
          first | refine SL.y (op_bit rfl rfl (by omega)) rfl rfl ?_ | refine SL.y (op_shl rfl rfl) rfl rfl ?_
          refine SL.y (op_andNot rfl rfl (by first | omega | assumption | decide | exact Nat.lt_of_le_of_lt (Nat.shiftRight_le ..) (by first | omega | assumption) | exact Nat.lt_of_le_of_lt Nat.and_le_left (by first | omega | assumption) | exact Nat.lt_of_le_of_lt Nat.and_le_right (by first | omega | decide)) (by first | omega | assumption | decide | exact Nat.lt_of_le_of_lt (Nat.shiftRight_le ..) (by first | omega | assumption) | exact Nat.lt_of_le_of_lt Nat.and_le_left (by first | omega | assumption) | exact Nat.lt_of_le_of_lt Nat.and_le_right (by first | omega | decide))) rfl rfl ?_
          refine SL.y (op_assign rfl) rfl rfl ?_
          refine SL.nil ?_
          refine T.blk ?_
          refine T.region ?_
          refine SL.y (op_move rfl) rfl rfl ?_
          first | refine SL.y (op_addN (q := 1) rfl rfl (by omega)) rfl rfl ?_ | refine SL.y (op_add rfl rfl (by omega) (by omega)) rfl rfl ?_ | refine SL.y (op_addW rfl rfl) rfl rfl ?_
          refine SL.y (op_assign rfl) rfl rfl ?_
          refine SL.nil ?_
          -- cut
          exact T.backW (c - (j + 1)) (by omega) ⟨j + 1, rfl, by omega, hX3, by rw [← havAt_clear hr (by omega) (by simp [hrel, hm, hb])], rfl⟩ (by repeat (first | exact Sub.nil | refine Sub.cons rfl ?_))
    · obtain rfl : j = c := by omega
      refine T.seq ?_
      refine T.seq ?_
      refine T.region ?_
      refine SL.y (op_move rfl) rfl rfl ?_
      refine SL.y (op_fieldAddr fa91_0 rfl) rfl rfl ?_
      first | refine SL.y (op_load ty3 rfl (by repeat (first | exact AtO.here | apply AtO.there)) rfl) rfl rfl ?_ | refine SL.y (op_loadX ty3 rfl (by assumption) rfl) rfl rfl ?_
      first | refine SL.y (op_lssT rfl rfl (by omega)) rfl rfl ?_ | refine SL.y (op_lssF rfl rfl (by omega)) rfl rfl ?_ | refine SL.y (op_lss rfl rfl) rfl rfl ?_
      refine SL.nil ?_
      refine T.condF rfl ?_
      refine T.exit (T.exitCode (T.exitCut (T.exitBlk ?_)))
      refine T.blk ?_
      refine T.region ?_
      first | refine SL.y (op_addN (q := 1) rfl rfl (by omega)) rfl rfl ?_ | refine SL.y (op_add rfl rfl (by omega) (by omega)) rfl rfl ?_ | refine SL.y (op_addW rfl rfl) rfl rfl ?_
      refine SL.y (op_move rfl) rfl rfl ?_
      refine SL.nil ?_
      -- cut
      exact T.backW (ms.length - (i + 1)) (by omega) ⟨i + 1, rfl, by omega, hX3, by rw [← havAt_next], rfl⟩ (by repeat (first | exact Sub.nil | refine Sub.cons rfl ?_))
  · obtain rfl : i = ms.length := by omega
    refine T.seq ?_
    refine T.region ?_
    first | refine SL.y (op_lssT rfl rfl (by omega)) rfl rfl ?_ | refine SL.y (op_lssF rfl rfl (by omega)) rfl rfl ?_ | refine SL.y (op_lss rfl rfl) rfl rfl ?_
    refine SL.nil ?_
    refine T.seq ?_
    refine T.condF rfl ?_
    refine T.exit (T.exitCode (T.exitCut (T.exitBlk ?_)))
    refine T.seq ?_
    refine T.region ?_
    refine SL.y (op_move rfl) rfl rfl ?_
    refine SL.y (op_assign rfl) rfl rfl ?_
    refine SL.nil ?_
    -- ret
    refine T.ret1 rfl (ResIs.tmp rfl) ?_
    rw [havAt_end]
theorem common45_spec {X : PMap} {v : Value} {c : Nat} {ms : List Nat} (h : M44R X v c ms) (hr : ms.length < 64) (hc : c < 64) (rows : Nat) (_hrows : rows < 18446744073709551616) : Spec Tryd.prog 97 [v, .int .u64 (rows : Int)] X fun u _ => u = .int .u64 (comR c rows ms : Int) := by
  obtain ⟨s, cs, rfl, hS, hl, hrow⟩ := h
  obtain ⟨As, cps, rfl⟩ := hS.form
  refine Spec.enter Tryd.func97 rfl Tryd.ntmps97 rfl ?_
  intro w0 hw0
  refine T.seq ?_
  refine T.region ?_
  refine SL.x (op_box rfl) rfl rfl ?_
  rintro _ _ _ ⟨B2, rfl, rfl, rfl⟩
  refine SL.y (op_assign (v := .int .u64 ((0 : Nat) : Int)) rfl) rfl rfl ?_
  refine SL.nil ?_
  refine T.seq ?_
  refine T.region ?_
  refine SL.y (op_fieldAddr fa91_0 rfl) rfl rfl ?_
  first | refine SL.y (op_load ty3 rfl (by repeat (first | exact AtO.here | apply AtO.there)) rfl) rfl rfl ?_ | refine SL.y (op_loadX ty3 rfl (by assumption) rfl) rfl rfl ?_
  -- op
  refine SL.x (op_callF en98 (vs := [_]) rfl (all45_spec c hc)) rfl rfl ?_
  rintro _ _ X1 ⟨rfl, hX1, rfl⟩
  refine SL.y (op_assign rfl) rfl rfl ?_
  refine SL.nil ?_
  refine T.seq ?_
  refine T.seq ?_
  refine T.region ?_
  refine SL.y (op_fieldAddr fa91_1 rfl) rfl rfl ?_
  first | refine SL.y (op_load ty89 rfl (by repeat (first | exact AtO.here | apply AtO.there)) rfl) rfl rfl ?_ | refine SL.y (op_loadX ty89 rfl (by assumption) rfl) rfl rfl ?_
  refine SL.y (op_lenS Tryd.underlying89 rfl) rfl rfl ?_
  refine SL.y (op_move (v := .int .i64 ((0 : Nat) : Int)) rfl) rfl rfl ?_
  refine SL.nil ?_
  refine T.block ?_
  -- loop live [1, 2, 4, 5, 13, 14]
  refine T.loopW (fun m env own X' => ∃ i : Nat, m = ms.length - i ∧ i ≤ ms.length ∧ X.le X' ∧ env = [(1, .int .u64 (rows : Int)), (2, .pointer (some ⟨B2, 0, none⟩)), (5, .int .u64 (comAt c rows ms i 0 : Int)), (13, .int .i64 (ms.length : Int)), (14, .int .i64 (i : Int))] ∧ own = [⟨B2, [.int .i64 (c : Int), .slice As ms.length cps], 91, 2⟩]) ms.length ⟨0, by simp, by omega, hX1, by rw [comAt_start], rfl⟩ (by repeat (first | exact Sub.nil | refine Sub.cons rfl ?_)) ?_
  rintro m _ _ X2 ⟨i, rfl, hi, hX2, rfl, rfl⟩
  rcases Nat.lt_or_ge i ms.length with hir | hir
  · skip
    refine T.seq ?_
    refine T.region ?_
    first | refine SL.y (op_lssT rfl rfl (by omega)) rfl rfl ?_ | refine SL.y (op_lssF rfl rfl (by omega)) rfl rfl ?_ | refine SL.y (op_lss rfl rfl) rfl rfl ?_
    refine SL.nil ?_
    refine T.seq ?_
    refine T.condT rfl ?_
    refine T.skip ?_
    refine T.seq ?_
    refine T.block ?_
    refine T.seq ?_
    refine T.region ?_
    refine SL.y (op_move rfl) rfl rfl ?_
    refine SL.y (op_assign rfl) rfl rfl ?_
    refine SL.nil ?_
    refine T.seq ?_
    refine T.region ?_
    refine SL.y (op_assign (v := .int .i64 ((0 : Nat) : Int)) rfl) rfl rfl ?_
    refine SL.nil ?_
    refine T.block ?_
    -- loop live [1, 2, 4, 5, 6, 7, 14]
    refine T.loopW (fun m env own X' => ∃ j : Nat, m = c - j ∧ j ≤ c ∧ X.le X' ∧ env = [(1, .int .u64 (rows : Int)), (2, .pointer (some ⟨B2, 0, none⟩)), (5, .int .u64 (comAt c rows ms i j : Int)), (6, .int .i64 (i : Int)), (7, .int .i64 (j : Int)), (13, .int .i64 (ms.length : Int)), (14, .int .i64 (i : Int))] ∧ own = [⟨B2, [.int .i64 (c : Int), .slice As ms.length cps], 91, 2⟩]) c ⟨0, by simp, by omega, hX2, rfl, rfl⟩ (by repeat (first | exact Sub.nil | refine Sub.cons rfl ?_)) ?_
    rintro m _ _ X3 ⟨j, rfl, hj, hX3, rfl, rfl⟩
    rcases Nat.lt_or_ge j c with hjc | hjc
    · obtain ⟨bo, rfl, hBo⟩ := (hS.mono hX3).blk (by omega)
      obtain ⟨Ar, cpr, hcell, hR⟩ := hrow i ms[i] (by simp [hir])
      obtain ⟨br, rfl, hBr⟩ := (hR.mono hX3).blk (by omega)
      have hget : (boolsC c ms[i])[j]? = some (.bool (ms[i].testBit j)) := by simp [boolsC, hjc]
      have hrel : Rel ms i j = ms[i].testBit j := by simp [Rel, hir]
      have hl1 : comAt c rows ms i j < 18446744073709551616 := maskP_lt _ _ (by omega)
      have hl2 : 2 ^ j < 18446744073709551616 := Nat.pow_lt_pow_right (a := 2) (by omega) (show _ < 64 by omega)
      refine T.seq ?_
      refine T.seq ?_
      refine T.region ?_
      refine SL.y (op_move rfl) rfl rfl ?_
      refine SL.y (op_fieldAddr fa91_0 rfl) rfl rfl ?_
      first | refine SL.y (op_load ty3 rfl (by repeat (first | exact AtO.here | apply AtO.there)) rfl) rfl rfl ?_ | refine SL.y (op_loadX ty3 rfl (by assumption) rfl) rfl rfl ?_
      first | refine SL.y (op_lssT rfl rfl (by omega)) rfl rfl ?_ | refine SL.y (op_lssF rfl rfl (by omega)) rfl rfl ?_ | refine SL.y (op_lss rfl rfl) rfl rfl ?_
      refine SL.nil ?_
      refine T.condT rfl ?_
      refine T.skip ?_
      refine T.seq ?_
      refine T.block ?_
      refine T.seq ?_
      refine T.region ?_
      refine SL.y (op_move rfl) rfl rfl ?_
      refine SL.y (op_move rfl) rfl rfl ?_
      first | refine SL.y (op_shrN rfl rfl (by omega)) rfl rfl ?_ | refine SL.y (op_shr rfl rfl) rfl rfl ?_
      -- to 26: op
      refine SL.y (op_remN (q := 2) rfl rfl rfl (by decide)) rfl rfl ?_
      refine SL.y (op_eql rfl rfl) rfl rfl ?_
      rw [bit_dec]
      cases hb : rows.testBit i with
      | false =>
        refine SL.y (op_move rfl) rfl rfl ?_
        first | refine SL.skip rfl rfl ?_ | refine SL.y (op_fieldAddr fa91_1 rfl) rfl rfl ?_
        first | refine SL.skip rfl rfl ?_ | refine SL.y (op_load ty89 rfl (by repeat (first | exact AtO.here | apply AtO.there)) rfl) rfl rfl ?_ | refine SL.y (op_loadX ty89 rfl (by assumption) rfl) rfl rfl ?_
        first | refine SL.skip rfl rfl ?_ | refine SL.y (op_move rfl) rfl rfl ?_
        first | refine SL.skip rfl rfl ?_ | refine SL.y (op_indexN Tryd.underlying89 ty123 rfl rfl (by omega)) rfl rfl ?_ | refine SL.y (op_index Tryd.underlying89 ty123 rfl rfl (by omega) (by omega)) rfl rfl ?_
        first | refine SL.skip rfl rfl ?_ | refine SL.y (op_load ty123 rfl (by repeat (first | exact AtO.here | apply AtO.there)) rfl) rfl rfl ?_ | refine SL.y (op_loadX ty123 rfl (by assumption) rfl) rfl rfl ?_
        first | refine SL.skip rfl rfl ?_ | refine SL.y (op_move rfl) rfl rfl ?_
        first | refine SL.skip rfl rfl ?_ | refine SL.y (op_indexN Tryd.underlying123 ty4 rfl rfl (by omega)) rfl rfl ?_ | refine SL.y (op_index Tryd.underlying123 ty4 rfl rfl (by omega) (by omega)) rfl rfl ?_
        first | refine SL.skip rfl rfl ?_ | refine SL.y (op_load ty4 rfl (by repeat (first | exact AtO.here | apply AtO.there)) rfl) rfl rfl ?_ | refine SL.y (op_loadX ty4 rfl (by assumption) rfl) rfl rfl ?_
        first | refine SL.skip rfl rfl ?_ | refine SL.y (op_not rfl) rfl rfl ?_
        first | refine SL.y (op_pickT rfl rfl) rfl rfl ?_ | refine SL.y (op_pickF rfl rfl) rfl rfl ?_ | refine SL.y (op_pickB rfl rfl rfl) rfl rfl ?_
        refine SL.nil ?_
        refine T.condF rfl ?_
        refine T.skip ?_
        refine T.blk ?_
        refine T.region ?_
        refine SL.y (op_move rfl) rfl rfl ?_
        first | refine SL.y (op_addN (q := 1) rfl rfl (by omega)) rfl rfl ?_ | refine SL.y (op_add rfl rfl (by omega) (by omega)) rfl rfl ?_ | refine SL.y (op_addW rfl rfl) rfl rfl ?_
        refine SL.y (op_assign rfl) rfl rfl ?_
        refine SL.nil ?_
        -- cut
        exact T.backW (c - (j + 1)) (by omega) ⟨j + 1, rfl, by omega, hX3, by rw [comAt_same (by simp [hb])], rfl⟩ (by repeat (first | exact Sub.nil | refine Sub.cons rfl ?_))
      | true =>
        refine SL.y (op_move rfl) rfl rfl ?_
        first | refine SL.skip rfl rfl ?_ | refine SL.y (op_fieldAddr fa91_1 rfl) rfl rfl ?_
        first | refine SL.skip rfl rfl ?_ | refine SL.y (op_load ty89 rfl (by repeat (first | exact AtO.here | apply AtO.there)) rfl) rfl rfl ?_ | refine SL.y (op_loadX ty89 rfl (by assumption) rfl) rfl rfl ?_
        first | refine SL.skip rfl rfl ?_ | refine SL.y (op_move rfl) rfl rfl ?_
        first | refine SL.skip rfl rfl ?_ | refine SL.y (op_indexN Tryd.underlying89 ty123 rfl rfl (by omega)) rfl rfl ?_ | refine SL.y (op_index Tryd.underlying89 ty123 rfl rfl (by omega) (by omega)) rfl rfl ?_
        -- to 33: op
        refine SL.y (op_loadX ty123 rfl hBo (cread1 hcell)) rfl rfl ?_
        first | refine SL.skip rfl rfl ?_ | refine SL.y (op_move rfl) rfl rfl ?_
        first | refine SL.skip rfl rfl ?_ | refine SL.y (op_indexN Tryd.underlying123 ty4 rfl rfl (by omega)) rfl rfl ?_ | refine SL.y (op_index Tryd.underlying123 ty4 rfl rfl (by omega) (by omega)) rfl rfl ?_
        -- to 36: op
        refine SL.y (op_loadX ty4 rfl hBr (cread1 hget)) rfl rfl ?_
        cases hm : ms[i].testBit j with
        | true =>
          first | refine SL.skip rfl rfl ?_ | refine SL.y (op_not rfl) rfl rfl ?_
          first | refine SL.y (op_pickT rfl rfl) rfl rfl ?_ | refine SL.y (op_pickF rfl rfl) rfl rfl ?_ | refine SL.y (op_pickB rfl rfl rfl) rfl rfl ?_
          refine SL.nil ?_
          refine T.condF rfl ?_
          refine T.skip ?_
          refine T.blk ?_
          refine T.region ?_
          refine SL.y (op_move rfl) rfl rfl ?_
          first | refine SL.y (op_addN (q := 1) rfl rfl (by omega)) rfl rfl ?_ | refine SL.y (op_add rfl rfl (by omega) (by omega)) rfl rfl ?_ | refine SL.y (op_addW rfl rfl) rfl rfl ?_
          refine SL.y (op_assign rfl) rfl rfl ?_
          refine SL.nil ?_
          -- cut
          exact T.backW (c - (j + 1)) (by omega) ⟨j + 1, rfl, by omega, hX3, by rw [comAt_same (by simp [hrel, hm])], rfl⟩ (by repeat (first | exact Sub.nil | refine Sub.cons rfl ?_))
        | false =>
          first | refine SL.skip rfl rfl ?_ | refine SL.y (op_not rfl) rfl rfl ?_
          first | refine SL.y (op_pickT rfl rfl) rfl rfl ?_ | refine SL.y (op_pickF rfl rfl) rfl rfl ?_ | refine SL.y (op_pickB rfl rfl rfl) rfl rfl ?_
          refine SL.nil ?_
          refine T.condT rfl ?_
          refine T.region ?_
          refine SL.y (op_move rfl) rfl rfl ?_
          refine SL.y (op_move rfl) rfl rfl ?_
          first | refine SL.y (op_bit rfl rfl (by omega)) rfl rfl ?_ | refine SL.y (op_shl rfl rfl) rfl rfl ?_
          refine SL.y (op_andNot rfl rfl (by first | omega | assumption | decide | exact Nat.lt_of_le_of_lt (Nat.shiftRight_le ..) (by first | omega | assumption) | exact Nat.lt_of_le_of_lt Nat.and_le_left (by first | omega | assumption) | exact Nat.lt_of_le_of_lt Nat.and_le_right (by first | omega | decide)) (by first | omega | assumption | decide | exact Nat.lt_of_le_of_lt (Nat.shiftRight_le ..) (by first | omega | assumption) | exact Nat.lt_of_le_of_lt Nat.and_le_left (by first | omega | assumption) | exact Nat.lt_of_le_of_lt Nat.and_le_right (by first | omega | decide))) rfl rfl ?_
          refine SL.y (op_assign rfl) rfl rfl ?_
          refine SL.nil ?_
          refine T.blk ?_
          refine T.region ?_
          refine SL.y (op_move rfl) rfl rfl ?_
          first | refine SL.y (op_addN (q := 1) rfl rfl (by omega)) rfl rfl ?_ | refine SL.y (op_add rfl rfl (by omega) (by omega)) rfl rfl ?_ | refine SL.y (op_addW rfl rfl) rfl rfl ?_
          refine SL.y (op_assign rfl) rfl rfl ?_
          refine SL.nil ?_
          -- cut
          exact T.backW (c - (j + 1)) (by omega) ⟨j + 1, rfl, by omega, hX3, by rw [← comAt_clear hc (by omega) (by simp [hrel, hm, hb])], rfl⟩ (by repeat (first | exact Sub.nil | refine Sub.cons rfl ?_))
    · obtain rfl : j = c := by omega
      refine T.seq ?_
      refine T.seq ?_
      refine T.region ?_
      refine SL.y (op_move rfl) rfl rfl ?_
      refine SL.y (op_fieldAddr fa91_0 rfl) rfl rfl ?_
      first | refine SL.y (op_load ty3 rfl (by repeat (first | exact AtO.here | apply AtO.there)) rfl) rfl rfl ?_ | refine SL.y (op_loadX ty3 rfl (by assumption) rfl) rfl rfl ?_
      first | refine SL.y (op_lssT rfl rfl (by omega)) rfl rfl ?_ | refine SL.y (op_lssF rfl rfl (by omega)) rfl rfl ?_ | refine SL.y (op_lss rfl rfl) rfl rfl ?_
      refine SL.nil ?_
      refine T.condF rfl ?_
      refine T.exit (T.exitCode (T.exitCut (T.exitBlk ?_)))
      refine T.blk ?_
      refine T.region ?_
      first | refine SL.y (op_addN (q := 1) rfl rfl (by omega)) rfl rfl ?_ | refine SL.y (op_add rfl rfl (by omega) (by omega)) rfl rfl ?_ | refine SL.y (op_addW rfl rfl) rfl rfl ?_
      refine SL.y (op_move rfl) rfl rfl ?_
      refine SL.nil ?_
      -- cut
      exact T.backW (ms.length - (i + 1)) (by omega) ⟨i + 1, rfl, by omega, hX3, by rw [← comAt_next], rfl⟩ (by repeat (first | exact Sub.nil | refine Sub.cons rfl ?_))
  · obtain rfl : i = ms.length := by omega
    refine T.seq ?_
    refine T.region ?_
    first | refine SL.y (op_lssT rfl rfl (by omega)) rfl rfl ?_ | refine SL.y (op_lssF rfl rfl (by omega)) rfl rfl ?_ | refine SL.y (op_lss rfl rfl) rfl rfl ?_
    refine SL.nil ?_
    refine T.seq ?_
    refine T.condF rfl ?_
    refine T.exit (T.exitCode (T.exitCut (T.exitBlk ?_)))
    refine T.seq ?_
    refine T.region ?_
    refine SL.y (op_move rfl) rfl rfl ?_
    refine SL.y (op_assign rfl) rfl rfl ?_
    refine SL.nil ?_
    -- ret
    refine T.ret1 rfl (ResIs.tmp rfl) ?_
    rw [comAt_end]
theorem close45_spec {X : PMap} {v : Value} {c : Nat} {ms : List Nat} (h : M44R X v c ms) (hr : ms.length < 64) (hc : c < 64) (cols : Nat) (hcols : cols < 18446744073709551616) : Spec Tryd.prog 84 [v, .int .u64 (cols : Int)] X fun u _ => u = .int .u64 (comR c (havR c cols ms) ms : Int) := by
  have hh := h
  obtain ⟨s, cs, rfl, hS, hl, hrow⟩ := h
  obtain ⟨As, cps, rfl⟩ := hS.form
  refine Spec.enter Tryd.func84 rfl Tryd.ntmps84 rfl ?_
  intro w0 hw0
  refine T.seq ?_
  refine T.region ?_
  refine SL.x (op_box rfl) rfl rfl ?_
  rintro _ _ _ ⟨B2, rfl, rfl, rfl⟩
  refine SL.y (op_assign (v := .int .u64 ((0 : Nat) : Int)) rfl) rfl rfl ?_
  refine SL.nil ?_
  refine T.seq ?_
  refine T.draw (by kernel_rfl) 6 [.t 0, .t 1, .t 2, .r 3, .r 4, .t 5] (by kernel_rfl) ?_
  first | refine SD.take rfl panicBody (op_load ty91 rfl (by repeat (first | exact AtO.here | apply AtO.there)) rfl) rfl rfl ?_ | refine SD.take rfl panicBody (op_loadX ty91 rfl (by assumption) rfl) rfl rfl ?_
  first | refine SD.take rfl panicBody (op_load ty91 rfl (by repeat (first | exact AtO.here | apply AtO.there)) rfl) rfl rfl ?_ | refine SD.take rfl panicBody (op_loadX ty91 rfl (by assumption) rfl) rfl rfl ?_
  refine SD.take rfl panicBody (op_move rfl) rfl rfl ?_
  -- op
  refine SD.run rfl (op_callF en85 (vs := [_, _]) rfl (having45_spec hh hr hc cols hcols)) rfl rfl ?_
  rintro _ _ X1 ⟨rfl, hX1, rfl⟩
  -- op
  refine SD.run rfl (op_callF en97 (vs := [_, _]) rfl (common45_spec (hh.mono hX1) hr hc (havR c cols ms) (maskP_lt _ _ (by omega)))) rfl rfl ?_
  rintro _ _ X2 ⟨rfl, hX2, rfl⟩
  refine SD.take rfl panicBody (op_assign rfl) rfl rfl ?_
  refine SD.nil ?_
  show SL _ _ _ _ _ _ _ [] _ _ _
  refine SL.nil ?_
  -- ret
  refine T.ret1 rfl (ResIs.tmp rfl) ?_
  rfl
end Go.Proofs.YtoheffglppbcbaaDoor
