/- What the law's proof rests on: the engine, a small separation logic over the kit's walk, and contracts of the functions that the law reaches. Part 2. -/
import Derived.Lib.Builder
import Derived.Lib.UnsafeStr
import Derived.Laws.Externs
import Derived.Test.YtmfiencoefbjfaaGreatDoorPart1
namespace Go.Proofs.YtmfiencoefbjfaaGreatDoor
section
set_option maxRecDepth 100000
theorem bs108 : ∃ i z, Tryz.prog.info? 108 = some i ∧ i.size = 1 ∧ i.zero = some z ∧ z.cells = ([.int .u64 0] : List Value).toArray := bs_of (by kernel_rfl)
theorem en63 : Enters Tryz.prog 63 := enters_mk Tryz.func63 (by kernel_rfl) rfl
theorem sl63 : SlT Tryz.prog 63 108 1 8 := ⟨Tryz.underlying63, sl_of (by kernel_rfl) (by decide)⟩
end
theorem hasB_nat (m i : Nat) : hasB m (i : Int) = m.testBit i := by simp [hasB]
theorem or_bit_of_has {m i : Nat} (h : m.testBit i = true) : m ||| 2 ^ i = m := by
  apply Nat.eq_of_testBit_eq
  intro j
  rw [Nat.testBit_or, Nat.testBit_two_pow]
  by_cases e : i = j
  · subst e; simp [h]
  · simp [e]
theorem or_bit_lt {m i : Nat} (h : m < 18446744073709551616) (hi : i < 64) : m ||| 2 ^ i < 18446744073709551616 :=
  Nat.or_lt_two_pow (n := 64) h (Nat.pow_lt_pow_right (by omega) hi)
theorem or_bit_ne (m i : Nat) : m ||| 2 ^ i ≠ 0 := by
  intro h
  have := (Nat.or_eq_zero_iff.1 h).2
  have h2 : 0 < 2 ^ i := Nat.pow_pos (by omega)
  omega

theorem with_spec {X : PMap} {v : Value} {m : Nat} (h : SetR X v m) (i : Nat) (hi : i < 64) : Spec Tryz.prog 65 [v, .int .i64 (i : Int)] X fun u X' => SetR X' u (m ||| 2 ^ i) := by
  have hlt := h.lt
  have hl := or_bit_lt hlt hi
  have hp : 2 ^ i < 18446744073709551616 := Nat.pow_lt_pow_right (a := 2) (by omega) hi
  by_cases hb : m.testBit i = true
  · have hbb : hasB m (i : Int) = true := by rw [hasB_nat, hb]
    have hm := or_bit_of_has hb
    obtain ⟨A, l, c, rfl⟩ := h.form
    refine Spec.enter Tryz.func65 rfl Tryz.ntmps65 rfl ?_
    intro w0 hw0
    refine T.seq <| T.region <| SL.w (op_box rfl) ?_
    rintro _ _ _ ⟨B2, rfl, rfl, rfl⟩
    refine SL.w (op_alloc z65) ?_
    rintro _ _ _ ⟨B4, rfl, rfl, rfl⟩
    refine SL.nil <| T.seq <| T.seq <| T.region <| SL.mv rfl <| SL.v (op_lssF rfl rfl (by omega)) ?_
    refine SL.mv rfl <| SL.mv rfl <| SL.v (op_gtrF rfl rfl (by omega)) ?_
    refine SL.v (op_pickF rfl rfl) <| SL.mv rfl <| SL.v (op_load ty65 rfl (by repeat constructor) rfl) ?_
    refine SL.mv rfl <| SL.w (op_callF en63 (vs := [_, _]) rfl (has_spec h _)) ?_
    rintro _ _ X1 ⟨rfl, hX1, rfl⟩
    rw [hbb]
    refine SL.v (op_pickF rfl rfl) <| SL.nil <| T.condT rfl <| T.seq <| T.region <| SL.v (op_load ty65 rfl (by repeat constructor) rfl) ?_
    refine SL.w (op_store ty65 rfl rfl (by repeat constructor) rfl rfl rfl) ?_
    rintro _ _ _ ⟨rfl, rfl⟩
    refine SL.nil <| T.ret1 rfl (ResIs.cell rfl ty65 (by repeat constructor) rfl) ?_
    rw [hm]
    exact h.mono hX1
  · have hbb : hasB m (i : Int) = false := by rw [hasB_nat]; simpa using hb
    rcases h with ⟨rfl, A, c, rfl⟩ | ⟨h0, h1, b, c, rest, rfl, hB⟩
    · refine Spec.enter Tryz.func65 rfl Tryz.ntmps65 rfl ?_
      intro w0 hw0
      refine T.seq <| T.region <| SL.w (op_box rfl) ?_
      rintro _ _ _ ⟨B2, rfl, rfl, rfl⟩
      refine SL.w (op_alloc z65) ?_
      rintro _ _ _ ⟨B4, rfl, rfl, rfl⟩
      refine SL.nil <| T.seq <| T.seq <| T.region <| SL.mv rfl <| SL.v (op_lssF rfl rfl (by omega)) ?_
      refine SL.mv rfl <| SL.mv rfl <| SL.v (op_gtrF rfl rfl (by omega)) ?_
      refine SL.v (op_pickF rfl rfl) <| SL.mv rfl <| SL.v (op_load ty65 rfl (by repeat constructor) rfl) ?_
      refine SL.mv rfl <| SL.w (op_callF en63 (vs := [_, _]) rfl (has_spec SetR.zero _)) ?_
      rintro _ _ X1 ⟨rfl, hX1, rfl⟩
      rw [hbb]
      refine SL.v (op_pickF rfl rfl) <| SL.nil <| T.condF rfl <| T.skip <| T.seq <| T.region <| SL.v (op_fieldAddr fa65_0 rfl) <| SL.v (op_load ty63 rfl (by repeat constructor) rfl) ?_
      refine SL.v (op_lenS Tryz.underlying63 rfl) <| SL.mv rfl <| SL.v (op_quo0 (q := 64) rfl rfl rfl (by omega) (by omega)) ?_
      refine SL.v (op_addN (q := 1) rfl rfl (by omega)) ?_
      refine SL.v (op_maxR rfl rfl (by omega)) ?_
      refine SL.w (op_make Tryz.underlying63 mk63 rfl rfl rfl (Nat.le_refl _) (by omega) (by omega)) ?_
      rintro _ _ _ ⟨B25, rfl, rfl, rfl⟩
      refine SL.as rfl <| SL.nil <| T.seq <| T.region <| SL.mv rfl <| SL.v (op_fieldAddr fa65_0 rfl) <| SL.v (op_load ty63 rfl (by repeat constructor) rfl) ?_
      refine SL.w (op_copy Tryz.underlying63 (by kernel_rfl) rfl rfl (by repeat constructor) Src.nil (m := 0) (by simp) (by simp) (by simp)) ?_
      rintro _ _ _ ⟨rfl, rfl, rfl⟩
      refine SL.nil <| T.seq <| T.draw (by kernel_rfl) 10 [.t 0, .t 1, .t 2, .t 3, .t 4, .t 5, .t 6, .t 7, .t 8, .t 9] (by kernel_rfl) ?_
      refine SD.take rfl panicBody (op_move rfl) rfl rfl ?_
      refine SD.take rfl panicBody (op_move rfl) rfl rfl ?_
      refine SD.take rfl panicBody (op_quo0 (q := 64) rfl rfl rfl (by omega) (by omega)) rfl rfl ?_
      refine SD.take rfl panicBody (op_indexN Tryz.underlying63 ty108 rfl rfl (by omega)) rfl rfl ?_
      refine SD.take rfl panicBody (op_load ty108 rfl (by repeat constructor) rfl) rfl rfl ?_
      refine SD.take rfl panicBody (op_move rfl) rfl rfl ?_
      refine SD.take rfl panicBody (op_remS (q := 64) rfl rfl rfl (by omega)) rfl rfl ?_
      refine SD.take rfl panicBody (op_bit rfl rfl (by omega)) rfl rfl ?_
      refine SD.take rfl panicBody (op_or rfl rfl (by first | omega | assumption | decide | exact Nat.lt_of_le_of_lt (Nat.shiftRight_le ..) (by first | omega | assumption) | exact Nat.lt_of_le_of_lt Nat.and_le_left (by first | omega | assumption) | exact Nat.lt_of_le_of_lt Nat.and_le_right (by first | omega | decide)) (by first | omega | assumption | decide | exact Nat.lt_of_le_of_lt (Nat.shiftRight_le ..) (by first | omega | assumption) | exact Nat.lt_of_le_of_lt Nat.and_le_left (by first | omega | assumption) | exact Nat.lt_of_le_of_lt Nat.and_le_right (by first | omega | decide))) rfl rfl ?_
      refine SD.take rfl panicBody (op_indexN Tryz.underlying63 ty108 rfl rfl (by omega)) rfl rfl ?_
      refine SD.nil ?_
      show SL _ _ _ _ _ _ _ [_] _ _ _
      refine SL.w (op_store ty108 rfl rfl (by repeat constructor) rfl rfl rfl) ?_
      rintro _ _ _ ⟨rfl, rfl⟩
      refine SL.nil <| T.seq <| T.region <| SL.mv rfl <| SL.v (op_build st65 (qs := [(0, _)]) rfl rfl) <| SL.w (op_store ty65 rfl rfl (by repeat constructor) rfl rfl rfl) ?_
      rintro _ _ _ ⟨rfl, rfl⟩
      refine SL.nil <| T.pub _ (by repeat constructor) ?_
      intro X2 hX2 hB2 _
      refine T.ret1 rfl (ResIs.cell rfl ty65 (by repeat constructor) rfl) ?_
      exact SetR.one (by simp) (by simpa using hl) hB2
    · refine Spec.enter Tryz.func65 rfl Tryz.ntmps65 rfl ?_
      intro w0 hw0
      refine T.seq <| T.region <| SL.w (op_box rfl) ?_
      rintro _ _ _ ⟨B2, rfl, rfl, rfl⟩
      refine SL.w (op_alloc z65) ?_
      rintro _ _ _ ⟨B4, rfl, rfl, rfl⟩
      refine SL.nil <| T.seq <| T.seq <| T.region <| SL.mv rfl <| SL.v (op_lssF rfl rfl (by omega)) ?_
      refine SL.mv rfl <| SL.mv rfl <| SL.v (op_gtrF rfl rfl (by omega)) ?_
      refine SL.v (op_pickF rfl rfl) <| SL.mv rfl <| SL.v (op_load ty65 rfl (by repeat constructor) rfl) ?_
      refine SL.mv rfl <| SL.w (op_callF en63 (vs := [_, _]) rfl (has_spec (SetR.one (by omega) h1 hB) _)) ?_
      rintro _ _ X1 ⟨rfl, hX1, rfl⟩
      rw [hbb]
      refine SL.v (op_pickF rfl rfl) <| SL.nil <| T.condF rfl <| T.skip <| T.seq <| T.region <| SL.v (op_fieldAddr fa65_0 rfl) <| SL.v (op_load ty63 rfl (by repeat constructor) rfl) ?_
      refine SL.v (op_lenS Tryz.underlying63 rfl) <| SL.mv rfl <| SL.v (op_quo0 (q := 64) rfl rfl rfl (by omega) (by omega)) ?_
      refine SL.v (op_addN (q := 1) rfl rfl (by omega)) ?_
      refine SL.v (op_maxL rfl rfl (by omega)) ?_
      refine SL.w (op_make Tryz.underlying63 mk63 rfl rfl rfl (Nat.le_refl _) (by omega) (by omega)) ?_
      rintro _ _ _ ⟨B25, rfl, rfl, rfl⟩
      refine SL.as rfl <| SL.nil <| T.seq <| T.region <| SL.mv rfl <| SL.v (op_fieldAddr fa65_0 rfl) <| SL.v (op_load ty63 rfl (by repeat constructor) rfl) ?_
      refine SL.w (op_copy Tryz.underlying63 (by kernel_rfl) rfl rfl (by repeat constructor) (Src.ofExt (hB.mono hX1) (by simp)) (m := 1) (by simp) (by simp) (by simp [Value.oneCell'])) ?_
      rintro _ _ _ ⟨rfl, rfl, rfl⟩
      refine SL.nil <| T.seq <| T.draw (by kernel_rfl) 10 [.t 0, .t 1, .t 2, .t 3, .t 4, .t 5, .t 6, .t 7, .t 8, .t 9] (by kernel_rfl) ?_
      refine SD.take rfl panicBody (op_move rfl) rfl rfl ?_
      refine SD.take rfl panicBody (op_move rfl) rfl rfl ?_
      refine SD.take rfl panicBody (op_quo0 (q := 64) rfl rfl rfl (by omega) (by omega)) rfl rfl ?_
      refine SD.take rfl panicBody (op_indexN Tryz.underlying63 ty108 rfl rfl (by omega)) rfl rfl ?_
      refine SD.take rfl panicBody (op_load ty108 rfl (by repeat constructor) rfl) rfl rfl ?_
      refine SD.take rfl panicBody (op_move rfl) rfl rfl ?_
      refine SD.take rfl panicBody (op_remS (q := 64) rfl rfl rfl (by omega)) rfl rfl ?_
      refine SD.take rfl panicBody (op_bit rfl rfl (by omega)) rfl rfl ?_
      refine SD.take rfl panicBody (op_or rfl rfl (by first | omega | assumption | decide | exact Nat.lt_of_le_of_lt (Nat.shiftRight_le ..) (by first | omega | assumption) | exact Nat.lt_of_le_of_lt Nat.and_le_left (by first | omega | assumption) | exact Nat.lt_of_le_of_lt Nat.and_le_right (by first | omega | decide)) (by first | omega | assumption | decide | exact Nat.lt_of_le_of_lt (Nat.shiftRight_le ..) (by first | omega | assumption) | exact Nat.lt_of_le_of_lt Nat.and_le_left (by first | omega | assumption) | exact Nat.lt_of_le_of_lt Nat.and_le_right (by first | omega | decide))) rfl rfl ?_
      refine SD.take rfl panicBody (op_indexN Tryz.underlying63 ty108 rfl rfl (by omega)) rfl rfl ?_
      refine SD.nil ?_
      show SL _ _ _ _ _ _ _ [_] _ _ _
      refine SL.w (op_store ty108 rfl rfl (by repeat constructor) rfl rfl rfl) ?_
      rintro _ _ _ ⟨rfl, rfl⟩
      refine SL.nil <| T.seq <| T.region <| SL.mv rfl <| SL.v (op_build st65 (qs := [(0, _)]) rfl rfl) <| SL.w (op_store ty65 rfl rfl (by repeat constructor) rfl rfl rfl) ?_
      rintro _ _ _ ⟨rfl, rfl⟩
      refine SL.nil <| T.pub _ (by repeat constructor) ?_
      intro X2 hX2 hB2 _
      refine T.ret1 rfl (ResIs.cell rfl ty65 (by repeat constructor) rfl) ?_
      exact SetR.one (or_bit_ne m i) hl hB2

theorem without_spec {X : PMap} {v : Value} {m : Nat} (h : SetR X v m) (i : Nat) (hi : i < 64) : Spec Tryz.prog 66 [v, .int .i64 (i : Int)] X fun u X' => SetR X' u (m &&& (18446744073709551615 - 2 ^ i)) := by
  have hlt := h.lt
  have hp : 2 ^ i < 18446744073709551616 := Nat.pow_lt_pow_right (a := 2) (by omega) hi
  have hl : m &&& (18446744073709551615 - 2 ^ i) < 18446744073709551616 := Nat.lt_of_le_of_lt Nat.and_le_left hlt
  by_cases hb : m.testBit i = true
  · have hbb : hasB m (i : Int) = true := by rw [hasB_nat, hb]
    rcases h with ⟨rfl, A, c, rfl⟩ | ⟨h0, h1, b, c, rest, rfl, hB⟩
    · simp at hb
    · refine Spec.enter Tryz.func66 rfl Tryz.ntmps66 rfl ?_
      intro w0 hw0
      refine T.seq <| T.region <| SL.w (op_box rfl) ?_
      rintro _ _ _ ⟨B2, rfl, rfl, rfl⟩
      refine SL.w (op_alloc z65) ?_
      rintro _ _ _ ⟨B4, rfl, rfl, rfl⟩
      refine SL.nil <| T.seq <| T.seq <| T.region <| SL.v (op_load ty65 rfl (by repeat constructor) rfl) ?_
      refine SL.mv rfl <| SL.w (op_callF en63 (vs := [_, _]) rfl (has_spec (SetR.one (by omega) h1 hB) _)) ?_
      rintro _ _ X1 ⟨rfl, hX1, rfl⟩
      rw [hbb]
      refine SL.v (op_not rfl) <| SL.nil <| T.condF rfl <| T.skip <| T.seq <| T.region <| SL.w (op_buildSlice Tryz.underlying63 bs108 (qs := []) rfl rfl rfl rfl rfl) ?_
      rintro _ _ _ ⟨B11, rfl, rfl, rfl⟩
      refine SL.v (op_fieldAddr fa65_0 rfl) <| SL.v (op_load ty63 rfl (by repeat constructor) rfl) ?_
      refine SL.w (op_append sl63 rfl rfl (by repeat constructor) (by rfl) (by rfl) (Nat.le_refl _) (by decide) (Src.ofExt (hB.mono hX1) (by simp)) (by simp [Value.oneCell']) (by decide) (by decide)) ?_
      rintro _ _ _ ⟨b2, cap2, rfl, rfl, rfl, hc2, hm2⟩
      refine SL.as rfl <| SL.nil <| T.seq <| T.draw (by kernel_rfl) 10 [.t 0, .t 1, .t 2, .t 3, .t 4, .t 5, .t 6, .t 7, .t 8, .t 9] (by kernel_rfl) ?_
      refine SD.take rfl panicBody (op_move rfl) rfl rfl ?_
      refine SD.take rfl panicBody (op_move rfl) rfl rfl ?_
      refine SD.take rfl panicBody (op_quo0 (q := 64) rfl rfl rfl (by omega) (by omega)) rfl rfl ?_
      refine SD.take rfl panicBody (op_indexN Tryz.underlying63 ty108 rfl rfl (by omega)) rfl rfl ?_
      refine SD.take rfl panicBody (op_load ty108 rfl (by repeat constructor) rfl) rfl rfl ?_
      refine SD.take rfl panicBody (op_move rfl) rfl rfl ?_
      refine SD.take rfl panicBody (op_remS (q := 64) rfl rfl rfl (by omega)) rfl rfl ?_
      refine SD.take rfl panicBody (op_bit rfl rfl (by omega)) rfl rfl ?_
      refine SD.take rfl panicBody (op_andNot rfl rfl (by first | omega | assumption | decide | exact Nat.lt_of_le_of_lt (Nat.shiftRight_le ..) (by first | omega | assumption) | exact Nat.lt_of_le_of_lt Nat.and_le_left (by first | omega | assumption) | exact Nat.lt_of_le_of_lt Nat.and_le_right (by first | omega | decide)) (by first | omega | assumption | decide | exact Nat.lt_of_le_of_lt (Nat.shiftRight_le ..) (by first | omega | assumption) | exact Nat.lt_of_le_of_lt Nat.and_le_left (by first | omega | assumption) | exact Nat.lt_of_le_of_lt Nat.and_le_right (by first | omega | decide))) rfl rfl ?_
      refine SD.take rfl panicBody (op_indexN Tryz.underlying63 ty108 rfl rfl (by omega)) rfl rfl ?_
      refine SD.nil ?_
      show SL _ _ _ _ _ _ _ [_] _ _ _
      refine SL.w (op_store ty108 rfl rfl (by repeat constructor) rfl rfl rfl) ?_
      rintro _ _ _ ⟨rfl, rfl⟩
      refine SL.nil <| T.seq <| T.region <| SL.mv rfl <| T.pubAt _ (by repeat constructor) ?_
      intro X2 hX2 hB2 _
      refine SL.w (op_callF en41 (vs := [_]) rfl (trim1_spec hl hB2 (by omega))) ?_
      rintro _ _ X3 ⟨rfl, hX3, hS⟩
      obtain ⟨A2, l2, c2, rfl⟩ := hS.form
      refine SL.w (op_store ty65 rfl rfl (by repeat constructor) rfl rfl rfl) ?_
      rintro _ _ _ ⟨rfl, rfl⟩
      refine SL.nil <| T.ret1 rfl (ResIs.cell rfl ty65 (by repeat constructor) rfl) ?_
      exact hS
  · have hbb : hasB m (i : Int) = false := by rw [hasB_nat]; simpa using hb
    obtain ⟨A, l, c, rfl⟩ := h.form
    refine Spec.enter Tryz.func66 rfl Tryz.ntmps66 rfl ?_
    intro w0 hw0
    refine T.seq <| T.region <| SL.w (op_box rfl) ?_
    rintro _ _ _ ⟨B2, rfl, rfl, rfl⟩
    refine SL.w (op_alloc z65) ?_
    rintro _ _ _ ⟨B4, rfl, rfl, rfl⟩
    refine SL.nil <| T.seq <| T.seq <| T.region <| SL.v (op_load ty65 rfl (by repeat constructor) rfl) ?_
    refine SL.mv rfl <| SL.w (op_callF en63 (vs := [_, _]) rfl (has_spec h _)) ?_
    rintro _ _ X1 ⟨rfl, hX1, rfl⟩
    rw [hbb]
    refine SL.v (op_not rfl) <| SL.nil <| T.condT rfl <| T.seq <| T.region <| SL.v (op_load ty65 rfl (by repeat constructor) rfl) ?_
    refine SL.w (op_store ty65 rfl rfl (by repeat constructor) rfl rfl rfl) ?_
    rintro _ _ _ ⟨rfl, rfl⟩
    refine SL.nil <| T.ret1 rfl (ResIs.cell rfl ty65 (by repeat constructor) rfl) ?_
    have e : m &&& (18446744073709551615 - 2 ^ i) = m := by
      apply Nat.eq_of_testBit_eq
      intro j
      rw [Nat.testBit_and, show 18446744073709551615 - 2 ^ i = 2 ^ 64 - (2 ^ i + 1) by omega, Nat.testBit_two_pow_sub_succ (by simpa using hp), Nat.testBit_two_pow]
      by_cases hj : m.testBit j = true
      · have h64 : j < 64 := by
          rcases Nat.lt_or_ge j 64 with h | h
          · exact h
          · rw [testBit_big hlt h] at hj; cases hj
        have hne : i ≠ j := fun e => hb (e ▸ hj)
        simp [hj, h64, hne]
      · simp [hj]
    rw [e]
    exact h.mono hX1

theorem below_spec {X : PMap} (k : Nat) (hk : k < 64) : Spec Tryz.prog 45 [.int .i64 (k : Int)] X fun u X' => SetR X' u (2 ^ k - 1) := by
  have hp : 2 ^ k < 18446744073709551616 := Nat.pow_lt_pow_right (a := 2) (by omega) hk
  have hp0 : 0 < 2 ^ k := Nat.pow_pos (by omega)
  by_cases h0 : k = 0
  · subst h0
    refine Spec.enter Tryz.func45 rfl Tryz.ntmps45 rfl ?_
    intro w0 hw0
    refine T.seq <| T.region <| SL.w (op_alloc z65) ?_
    rintro _ _ _ ⟨B2, rfl, rfl, rfl⟩
    refine SL.nil <| T.seq <| T.region <| SL.mv rfl <| SL.v (op_maxL rfl rfl (by omega)) ?_
    refine SL.v (op_minL rfl rfl (by omega)) ?_
    refine SL.as rfl <| SL.nil <| T.seq <| T.region <| SL.mv rfl <| SL.v (op_addN (q := 63) rfl rfl (by omega)) ?_
    refine SL.v (op_quo0 (q := 64) rfl rfl rfl (by omega) (by omega)) ?_
    refine SL.w (op_make Tryz.underlying63 mk63 rfl rfl rfl (Nat.le_refl _) (by omega) (by omega)) ?_
    rintro _ _ _ ⟨B11, rfl, rfl, rfl⟩
    refine SL.as rfl <| SL.nil <| T.seq <| T.seq <| T.region <| SL.mv rfl <| SL.v (op_lenS Tryz.underlying63 rfl) <| SL.v (op_move (v := .int .i64 ((0 : Nat) : Int)) rfl) <| SL.nil <| T.block <| T.unrollStart 1 ?_
    refine T.unroll ?_
    refine T.seq <| T.region <| SL.v (op_lssF rfl rfl (by omega)) ?_
    refine SL.nil <| T.seq <| T.condF rfl ?_
    refine T.exit (T.exitCode (T.exitMore (T.exitBlk ?_)))
    refine T.seq <| T.seq <| T.region <| SL.mv rfl <| SL.v (op_remS (q := 64) rfl rfl rfl (by omega)) ?_
    refine SL.v (op_gtrF rfl rfl (by omega)) ?_
    refine SL.nil <| T.condF rfl <| T.skip <| T.seq <| T.region <| SL.mv rfl <| SL.v (op_build st65 (qs := [(0, _)]) rfl rfl) <| SL.w (op_store ty65 rfl rfl (by repeat constructor) rfl rfl rfl) ?_
    rintro _ _ _ ⟨rfl, rfl⟩
    refine SL.nil <| T.ret1 rfl (ResIs.cell rfl ty65 (by repeat constructor) rfl) ?_
    exact SetR.zero
  · have e : (k + 63) / 64 = 1 := by omega
    refine Spec.enter Tryz.func45 rfl Tryz.ntmps45 rfl ?_
    intro w0 hw0
    refine T.seq <| T.region <| SL.w (op_alloc z65) ?_
    rintro _ _ _ ⟨B2, rfl, rfl, rfl⟩
    refine SL.nil <| T.seq <| T.region <| SL.mv rfl <| SL.v (op_maxL rfl rfl (by omega)) ?_
    refine SL.v (op_minL rfl rfl (by omega)) ?_
    refine SL.as rfl <| SL.nil <| T.seq <| T.region <| SL.mv rfl <| SL.v (op_addN (q := 63) rfl rfl (by omega)) ?_
    refine SL.v (op_quoN (q := 64) rfl rfl rfl (by omega) (by decide)) ?_
    rw [e]
    refine SL.w (op_make (l := 1) (c := 1) Tryz.underlying63 mk63 rfl rfl rfl (Nat.le_refl _) (by omega) (by omega)) ?_
    rintro _ _ _ ⟨b1, rfl, rfl, rfl⟩
    refine SL.as rfl <| SL.nil <| T.seq <| T.seq <| T.region <| SL.mv rfl <| SL.v (op_lenS Tryz.underlying63 rfl) <| SL.v (op_move (v := .int .i64 ((0 : Nat) : Int)) rfl) <| SL.nil <| T.block <| T.unrollStart 2 ?_
    refine T.unroll ?_
    refine T.seq <| T.region <| SL.v (op_lssT rfl rfl (by omega)) ?_
    refine SL.nil <| T.seq <| T.condT rfl <| T.skip <| T.seq <| T.block <| T.seq <| T.region <| SL.mv rfl <| SL.as rfl <| SL.nil <| T.region <| SL.mv rfl <| SL.mv rfl <| SL.v (op_indexN Tryz.underlying63 ty108 rfl rfl (by omega)) ?_
    refine SL.w (op_store ty108 rfl rfl (by repeat constructor) rfl rfl rfl) ?_
    rintro _ _ _ ⟨rfl, rfl⟩
    refine SL.nil <| T.blk <| T.region <| SL.v (op_addN (q := 1) rfl rfl (by omega)) ?_
    refine SL.mv rfl <| SL.nil <| T.unroll ?_
    refine T.seq <| T.region <| SL.v (op_lssF rfl rfl (by omega)) ?_
    refine SL.nil <| T.seq <| T.condF rfl ?_
    refine T.exit (T.exitCode (T.exitMore (T.exitBlk ?_)))
    refine T.seq <| T.seq <| T.region <| SL.mv rfl <| SL.v (op_remS (q := 64) rfl rfl rfl (by omega)) ?_
    refine SL.v (op_gtrT rfl rfl (by omega)) ?_
    refine SL.nil <| T.condT rfl <| T.region <| SL.mv rfl <| SL.mv rfl <| SL.v (op_lenS Tryz.underlying63 rfl) <| SL.v (op_subN (q := 1) rfl rfl (by omega) (by omega)) ?_
    refine SL.mv rfl <| SL.v (op_remS (q := 64) rfl rfl rfl (by omega)) ?_
    refine SL.v (op_bit rfl rfl (by omega)) ?_
    refine SL.v (op_subU (q := 1) rfl rfl (by omega) (by omega)) ?_
    refine SL.v (op_indexN Tryz.underlying63 ty108 rfl rfl (by omega)) ?_
    refine SL.w (op_store ty108 rfl rfl (by repeat constructor) rfl rfl rfl) ?_
    rintro _ _ _ ⟨rfl, rfl⟩
    refine SL.nil <| T.seq <| T.region <| SL.mv rfl <| SL.v (op_build st65 (qs := [(0, _)]) rfl rfl) <| SL.w (op_store ty65 rfl rfl (by repeat constructor) rfl rfl rfl) ?_
    rintro _ _ _ ⟨rfl, rfl⟩
    refine SL.nil <| T.pub _ (by repeat constructor) ?_
    intro X1 hX1 hB1 _
    refine T.ret1 rfl (ResIs.cell rfl ty65 (by repeat constructor) rfl) ?_
    have h1 : 2 ^ k ≠ 1 := fun e => h0 (by simpa using e)
    exact SetR.one (by omega) (by omega) hB1
end Go.Proofs.YtmfiencoefbjfaaGreatDoor
namespace Go.Proofs.YtmfiencoefbjfaaGreatDoor
section
set_option maxRecDepth 100000
theorem ty3 : Ty Tryz.prog 3 false 1 := ⟨⟨_, Tryz.underlying3, rfl⟩, by kernel_rfl⟩
end
/-- The set of the numbers of a list. -/
def maskOf (l : List Nat) : Nat := l.foldl (fun m i => m ||| 2 ^ i) 0
theorem maskOf_take_succ (l : List Nat) (j : Nat) (h : j < l.length) : maskOf (l.take (j + 1)) = maskOf (l.take j) ||| 2 ^ l[j] := by
  unfold maskOf
  rw [List.take_succ_eq_append_getElem h, List.foldl_append]
  rfl
theorem maskOf_lt (l : List Nat) (h : ∀ i ∈ l, i < 64) : maskOf l < 18446744073709551616 := by
  have key : ∀ (l : List Nat) (m : Nat), m < 18446744073709551616 → (∀ i ∈ l, i < 64) → l.foldl (fun m i => m ||| 2 ^ i) m < 18446744073709551616 := by
    intro l
    induction l with
    | nil => intro m hm _; exact hm
    | cons i l ih => intro m hm h; exact ih _ (or_bit_lt hm (h i (by simp))) fun j hj => h j (by simp [hj])
  exact key l 0 (by omega) h

theorem top_step {l : List Nat} {j : Nat} {top : Int} {hjl : j < l.length} (hall : ∀ q (h : q < l.length), q < j → (l[q] : Int) ≤ top) : ∀ q (h : q < l.length), q < j + 1 → (l[q] : Int) ≤ if (l[j] : Int) > top then (l[j] : Int) else top := by
  intro q hq hqj
  rcases Nat.lt_or_ge q j with h | h
  · have := hall q hq h
    split <;> omega
  · have e : q = j := by omega
    subst e
    split <;> omega
theorem of_spec {X : PMap} {v : Value} {l : List Nat} (h : SliceR X v l.length (ints l)) (hl : ∀ i ∈ l, i < 64) (hn : l.length < 4294967296) : Spec Tryz.prog 17 [v] X fun u X' => SetR X' u (maskOf l) := by
  rcases h with ⟨h0, _, A, c, rfl⟩ | ⟨h0, b, c, rfl, hB⟩
  · have : l = [] := List.eq_nil_of_length_eq_zero h0
    subst this
    refine Spec.enter Tryz.func17 rfl Tryz.ntmps17 rfl ?_
    intro w0 hw0
    refine T.seq <| T.region <| SL.w (op_alloc z65) ?_
    rintro _ _ _ ⟨B2, rfl, rfl, rfl⟩
    refine SL.nil <| T.seq <| T.region <| SL.as rfl <| SL.nil <| T.seq <| T.seq <| T.region <| SL.mv rfl <| SL.v (op_lenS Tryz.underlying42 rfl) <| SL.v (op_move (v := .int .i64 ((0 : Nat) : Int)) rfl) <| SL.nil <| T.block <| T.unrollStart 1 ?_
    refine T.unroll ?_
    refine T.seq <| T.region <| SL.v (op_lssF rfl rfl (by omega)) ?_
    refine SL.nil <| T.seq <| T.condF rfl ?_
    refine T.exit (T.exitCode (T.exitMore (T.exitBlk ?_)))
    refine T.seq <| T.seq <| T.region <| SL.mv rfl <| SL.v (op_lssT rfl rfl (by omega)) ?_
    refine SL.nil <| T.condT rfl <| T.seq <| T.region <| SL.v (op_build st65 (qs := []) rfl rfl) <| SL.w (op_store ty65 rfl rfl (by repeat constructor) rfl rfl rfl) ?_
    rintro _ _ _ ⟨rfl, rfl⟩
    refine SL.nil <| T.ret1 rfl (ResIs.cell rfl ty65 (by repeat constructor) rfl) ?_
    exact SetR.zero
  · refine Spec.enter Tryz.func17 rfl Tryz.ntmps17 rfl ?_
    intro w0 hw0
    refine T.seq <| T.region <| SL.w (op_alloc z65) ?_
    rintro _ _ _ ⟨B2, rfl, rfl, rfl⟩
    refine SL.nil <| T.seq <| T.region <| SL.as rfl <| SL.nil <| T.seq <| T.seq <| T.region <| SL.mv rfl <| SL.v (op_lenS Tryz.underlying42 rfl) <| SL.v (op_move (v := .int .i64 ((0 : Nat) : Int)) rfl) <| SL.nil <| T.block <| T.loopW (fun m env own X' => ∃ (j : Nat) (top : Int), m = l.length - j ∧ j ≤ l.length ∧ -1 ≤ top ∧ top < 64 ∧ (∀ q (h : q < l.length), q < j → (l[q] : Int) ≤ top) ∧ env = [(0, .slice (some ⟨b, 0, none⟩) l.length c), (2, .pointer (some ⟨B2, 0, none⟩)), (3, .int .i64 top), (9, .slice (some ⟨b, 0, none⟩) l.length c), (10, .int .i64 l.length), (11, .int .i64 (j : Int))] ∧ own = [⟨B2, [.slice none 0 0], 65, 1⟩] ∧ X = X') l.length ⟨0, -1, by simp, by omega, by omega, by omega, fun _ _ h => by omega, rfl, rfl, rfl⟩ (by repeat (first | exact Sub.nil | refine Sub.cons rfl ?_)) ?_
    rintro m _ _ _ ⟨j, top, rfl, hj, ht0, ht1, hall, rfl, rfl, rfl⟩
    rcases Nat.lt_or_ge j l.length with hjl | hjl
    · have h64 := hl l[j] (List.getElem_mem hjl)
      refine T.seq <| T.region <| SL.v (op_lssT rfl rfl (by omega)) ?_
      refine SL.nil <| T.seq <| T.condT rfl <| T.skip <| T.seq <| T.block <| T.seq <| T.region <| SL.v (op_indexN Tryz.underlying42 ty3 rfl rfl (by omega)) ?_
      refine SL.v (op_loadX ty3 rfl hB (cread1 (ints_get l j hjl))) <| SL.as rfl <| SL.nil <| T.seq <| T.region <| SL.mv rfl <| SL.v (op_leqT rfl rfl (by omega)) ?_
      refine SL.nil <| T.condT rfl <| T.region <| SL.mv rfl <| SL.mv rfl <| SL.v (op_max rfl rfl rfl) <| SL.as rfl <| SL.nil <| T.blk <| T.region <| SL.v (op_addN (q := 1) rfl rfl (by omega)) ?_
      refine SL.mv rfl <| SL.nil ?_
      exact T.backW (l.length - (j + 1)) (by omega) ⟨j + 1, _, rfl, by omega, by split <;> omega, by split <;> omega, top_step hall, rfl, rfl, rfl⟩ (by repeat (first | exact Sub.nil | refine Sub.cons rfl ?_))
    · have ej : j = l.length := by omega
      subst ej
      have h0' := hall 0 h0 h0
      obtain ⟨tp, rfl⟩ := Int.eq_ofNat_of_zero_le (show 0 ≤ top by omega)
      refine T.seq <| T.region <| SL.v (op_lssF rfl rfl (by omega)) ?_
      refine SL.nil <| T.seq <| T.condF rfl ?_
      refine T.exit (T.exitCode (T.exitCut (T.exitBlk ?_)))
      refine T.seq <| T.seq <| T.region <| SL.mv rfl <| SL.v (op_lssF rfl rfl (by omega)) ?_
      refine SL.nil <| T.condF rfl <| T.skip <| T.seq <| T.region <| SL.mv rfl <| SL.v (op_quo0 (q := 64) rfl rfl rfl (by omega) (by omega)) ?_
      refine SL.v (op_addN (q := 1) rfl rfl (by omega)) ?_
      refine SL.w (op_make Tryz.underlying63 mk63 rfl rfl rfl (Nat.le_refl _) (by omega) (by omega)) ?_
      rintro _ _ _ ⟨B27, rfl, rfl, rfl⟩
      refine SL.as rfl <| SL.nil <| T.seq <| T.seq <| T.region <| SL.mv rfl <| SL.v (op_lenS Tryz.underlying42 rfl) <| SL.v (op_move (v := .int .i64 ((0 : Nat) : Int)) rfl) <| SL.nil <| T.block <| T.loopW (fun m env own X' => ∃ (j : Nat), m = l.length - j ∧ j ≤ l.length ∧ env = [(0, .slice (some ⟨b, 0, none⟩) l.length c), (2, .pointer (some ⟨B2, 0, none⟩)), (3, .int .i64 (tp : Int)), (6, .slice (some ⟨B27, 0, none⟩) 1 1), (28, .slice (some ⟨b, 0, none⟩) l.length c), (29, .int .i64 l.length), (30, .int .i64 (j : Int))] ∧ own = [⟨B27, [.int .u64 (maskOf (l.take j) : Nat)], 108, 1⟩, ⟨B2, [.slice none 0 0], 65, 1⟩] ∧ X = X') l.length ⟨0, by simp, by omega, rfl, rfl, rfl⟩ (by repeat (first | exact Sub.nil | refine Sub.cons rfl ?_)) ?_
      rintro m _ _ _ ⟨j, rfl, hj, rfl, rfl, rfl⟩
      rcases Nat.lt_or_ge j l.length with hjl | hjl
      · have h64 := hl l[j] (List.getElem_mem hjl)
        have hq := hall j hjl hjl
        have hmk := maskOf_lt (l.take j) fun i hi => hl i (List.mem_of_mem_take hi)
        have hp : 2 ^ l[j] < 18446744073709551616 := Nat.pow_lt_pow_right (a := 2) (by omega) h64
        refine T.seq <| T.region <| SL.v (op_lssT rfl rfl (by omega)) ?_
        refine SL.nil <| T.seq <| T.condT rfl <| T.skip <| T.seq <| T.block <| T.seq <| T.region <| SL.v (op_indexN Tryz.underlying42 ty3 rfl rfl (by omega)) ?_
        refine SL.v (op_loadX ty3 rfl hB (cread1 (ints_get l j hjl))) <| SL.as rfl <| SL.nil <| T.seq <| T.region <| SL.mv rfl <| SL.v (op_geqT rfl rfl (by omega)) ?_
        refine SL.mv rfl <| SL.mv rfl <| SL.mv rfl <| SL.v (op_leqT rfl rfl (by omega)) ?_
        refine SL.v (op_pickT rfl rfl) <| SL.nil <| T.condT rfl <| T.draw (by kernel_rfl) 10 [.t 0, .t 1, .t 2, .t 3, .t 4, .t 5, .t 6, .t 7, .t 8, .t 9] (by kernel_rfl) ?_
        refine SD.take rfl panicBody (op_move rfl) rfl rfl ?_
        refine SD.take rfl panicBody (op_move rfl) rfl rfl ?_
        refine SD.take rfl panicBody (op_quo0 (q := 64) rfl rfl rfl (by omega) (by omega)) rfl rfl ?_
        refine SD.take rfl panicBody (op_indexN Tryz.underlying63 ty108 rfl rfl (by omega)) rfl rfl ?_
        refine SD.take rfl panicBody (op_load ty108 rfl (by repeat constructor) rfl) rfl rfl ?_
        refine SD.take rfl panicBody (op_move rfl) rfl rfl ?_
        refine SD.take rfl panicBody (op_remS (q := 64) rfl rfl rfl (by omega)) rfl rfl ?_
        refine SD.take rfl panicBody (op_bit rfl rfl (by omega)) rfl rfl ?_
        refine SD.take rfl panicBody (op_or rfl rfl (by first | omega | assumption | decide | exact Nat.lt_of_le_of_lt (Nat.shiftRight_le ..) (by first | omega | assumption) | exact Nat.lt_of_le_of_lt Nat.and_le_left (by first | omega | assumption) | exact Nat.lt_of_le_of_lt Nat.and_le_right (by first | omega | decide)) (by first | omega | assumption | decide | exact Nat.lt_of_le_of_lt (Nat.shiftRight_le ..) (by first | omega | assumption) | exact Nat.lt_of_le_of_lt Nat.and_le_left (by first | omega | assumption) | exact Nat.lt_of_le_of_lt Nat.and_le_right (by first | omega | decide))) rfl rfl ?_
        refine SD.take rfl panicBody (op_indexN Tryz.underlying63 ty108 rfl rfl (by omega)) rfl rfl ?_
        refine SD.nil ?_
        show SL _ _ _ _ _ _ _ [_] _ _ _
        refine SL.w (op_store ty108 rfl rfl (by repeat constructor) rfl rfl rfl) ?_
        rintro _ _ _ ⟨rfl, rfl⟩
        refine SL.nil <| T.blk <| T.region <| SL.v (op_addN (q := 1) rfl rfl (by omega)) ?_
        refine SL.mv rfl <| SL.nil ?_
        exact T.backW (l.length - (j + 1)) (by omega) ⟨j + 1, rfl, by omega, rfl, by rw [maskOf_take_succ l j hjl]; rfl, rfl⟩ (by repeat (first | exact Sub.nil | refine Sub.cons rfl ?_))
      · have ej : j = l.length := by omega
        subst ej
        rw [List.take_length]
        refine T.seq <| T.region <| SL.v (op_lssF rfl rfl (by omega)) ?_
        refine SL.nil <| T.seq <| T.condF rfl ?_
        refine T.exit (T.exitCode (T.exitCut (T.exitBlk ?_)))
        refine T.seq <| T.region <| SL.mv rfl <| T.pubAt B27 (by repeat constructor) ?_
        intro X1 hX1 hB1 _
        refine SL.w (op_callF en41 (vs := [_]) rfl (trim1_spec (maskOf_lt l hl) hB1 (by omega))) ?_
        rintro _ _ X2 ⟨rfl, hX2, hS⟩
        obtain ⟨A2, l2, c2, rfl⟩ := hS.form
        refine SL.w (op_store ty65 rfl rfl (by repeat constructor) rfl rfl rfl) ?_
        rintro _ _ _ ⟨rfl, rfl⟩
        refine SL.nil <| T.ret1 rfl (ResIs.cell rfl ty65 (by repeat constructor) rfl) ?_
        exact hS
end Go.Proofs.YtmfiencoefbjfaaGreatDoor
namespace Go.Proofs.YtmfiencoefbjfaaGreatDoor
section
set_option maxRecDepth 100000
theorem en86 : Enters Tryz.prog 86 := enters_mk Tryz.func86 (by kernel_rfl) rfl
theorem en96 : Enters Tryz.prog 96 := enters_mk Tryz.func96 (by kernel_rfl) rfl
theorem ty5 : Ty Tryz.prog 5 false 1 := ⟨⟨_, Tryz.underlying5, rfl⟩, by kernel_rfl⟩
end
/-- The table of the package math/bits. -/
def tab64 : List Nat := [0, 1, 56, 2, 57, 49, 28, 3, 61, 58, 42, 50, 38, 29, 17, 4, 62, 47, 59, 36, 45, 43, 51, 22, 53, 39, 33, 30, 24, 18, 12, 5, 63, 55, 48, 27, 60, 41, 37, 16, 46, 35, 44, 21, 52, 32, 23, 11, 54, 26, 40, 15, 34, 20, 31, 10, 25, 14, 19, 9, 13, 8, 7, 6]
def Tab (X : PMap) : Prop := Blk X 0 (tab64.map fun (i : Nat) => .int .u8 (i : Int))
theorem Tab.mono {X X' : PMap} (h : Tab X) (hX : X.le X') : Tab X' := Blk.mono h hX
theorem tab64_at : ∀ t, t < 64 → tab64[(2 ^ t * 285870213051353865 % 18446744073709551616) >>> 58]? = some t := by decide
theorem tab64_in : ∀ t, t < 64 → (2 ^ t * 285870213051353865 % 18446744073709551616) >>> 58 < 64 := by decide

theorem tz_spec {X : PMap} (hT : Tab X) (t q m : Nat) (hm : m = 2 ^ t * (2 * q + 1)) (hlt : m < 18446744073709551616) : Spec Tryz.prog 86 [.int .u64 (m : Int)] X fun u X' => u = .int .i64 (t : Int) ∧ X = X' := by
  have ht : t < 64 := odd_lt (n := 64) (q := q) (by rw [← hm]; exact hlt)
  have h0 : 0 < m := by rw [hm]; exact Nat.mul_pos (Nat.pow_pos (by omega)) (by omega)
  have hlow : m &&& (18446744073709551616 - m) = 2 ^ t := by rw [hm]; exact low_bit t q (by omega)
  have hin := tab64_in t ht
  have hat := tab64_at t ht
  refine Spec.enter Tryz.func86 rfl Tryz.ntmps86 rfl ?_
  intro w0 hw0
  refine T.seq <| T.region <| SL.v (op_assign (v := .int .i64 ((0 : Nat) : Int)) rfl) <| SL.nil <| T.seq <| T.seq <| T.region <| SL.mv rfl <| SL.v (op_eqlF rfl rfl (by omega)) ?_
  refine SL.nil <| T.condF rfl <| T.skip <| T.seq <| T.region <| SL.mv rfl <| SL.mv rfl <| SL.v (op_negU rfl (by omega) (by omega)) ?_
  refine SL.v (op_and rfl rfl (by first | omega | assumption | decide | exact Nat.lt_of_le_of_lt (Nat.shiftRight_le ..) (by first | omega | assumption) | exact Nat.lt_of_le_of_lt Nat.and_le_left (by first | omega | assumption) | exact Nat.lt_of_le_of_lt Nat.and_le_right (by first | omega | decide)) (by first | omega | assumption | decide | exact Nat.lt_of_le_of_lt (Nat.shiftRight_le ..) (by first | omega | assumption) | exact Nat.lt_of_le_of_lt Nat.and_le_left (by first | omega | assumption) | exact Nat.lt_of_le_of_lt Nat.and_le_right (by first | omega | decide))) ?_
  rw [hlow]
  refine SL.v (op_mulU (q := 285870213051353865) rfl rfl) <| SL.v (op_shrN (q := 58) rfl rfl (by omega)) ?_
  refine SL.v (op_indexA Tryz.underlying166 ty5 rfl rfl (by omega)) ?_
  refine SL.v (op_loadX ty5 rfl hT (cread1 (by rw [List.getElem?_map, hat]; rfl))) ?_
  refine SL.v (op_convI64 Tryz.underlying5 Tryz.underlying3 rfl (by omega) (by omega)) ?_
  refine SL.as rfl <| SL.nil <| T.ret1 rfl (ResIs.tmp rfl) ?_
  exact ⟨rfl, rfl⟩

theorem least_spec {X : PMap} (hT : Tab X) {v : Value} {m : Nat} (h : SetR X v m) (t q : Nat) (hm : m = 2 ^ t * (2 * q + 1)) : Spec Tryz.prog 95 [v] X fun u _ => u = .tuple #[.int .i64 (t : Int), .bool true] := by
  have h0 : 0 < m := by rw [hm]; exact Nat.mul_pos (Nat.pow_pos (by omega)) (by omega)
  rcases h with ⟨rfl, A, c, rfl⟩ | ⟨_, h1, b, c, rest, rfl, hB⟩
  · omega
  · have ht : t < 64 := odd_lt (n := 64) (q := q) (by rw [← hm]; exact h1)
    refine Spec.enter Tryz.func95 rfl Tryz.ntmps95 rfl ?_
    intro w0 hw0
    refine T.seq <| T.region <| SL.w (op_box rfl) ?_
    rintro _ _ _ ⟨B1, rfl, rfl, rfl⟩
    refine SL.v (op_assign (v := .int .i64 ((0 : Nat) : Int)) rfl) <| SL.as rfl <| SL.nil <| T.seq <| T.seq <| T.region <| SL.v (op_fieldAddr fa65_0 rfl) <| SL.v (op_load ty63 rfl (by repeat constructor) rfl) ?_
    refine SL.v (op_lenS Tryz.underlying63 rfl) <| SL.v (op_move (v := .int .i64 ((0 : Nat) : Int)) rfl) <| SL.nil <| T.block <| T.unrollStart 1 ?_
    refine T.unroll ?_
    refine T.seq <| T.region <| SL.v (op_lssT rfl rfl (by omega)) ?_
    refine SL.nil <| T.seq <| T.condT rfl <| T.skip <| T.seq <| T.block <| T.seq <| T.region <| SL.mv rfl <| SL.v (op_indexN Tryz.underlying63 ty108 rfl rfl (by omega)) ?_
    refine SL.v (op_loadX ty108 rfl (by assumption) rfl) ?_
    refine SL.as rfl <| SL.as rfl <| SL.nil <| T.seq <| T.region <| SL.mv rfl <| SL.v (op_neqT rfl rfl (by omega)) ?_
    refine SL.nil <| T.condT rfl <| T.seq <| T.region <| SL.mv rfl <| SL.v (op_mulN (p := 64) rfl rfl (by omega)) ?_
    refine SL.mv rfl <| SL.w (op_callF en86 (vs := [_]) rfl (tz_spec hT t q m hm h1)) ?_
    rintro _ _ X1 ⟨rfl, hX1, rfl, rfl⟩
    refine SL.v (op_addN rfl rfl (by omega)) ?_
    refine SL.as rfl <| SL.as rfl <| SL.nil <| T.ret2 rfl (ResIs.tmp rfl) (ResIs.tmp rfl) ?_
    simp
theorem least0_spec {X : PMap} {v : Value} (h : SetR X v 0) : Spec Tryz.prog 95 [v] X fun u _ => u = .tuple #[.int .i64 0, .bool false] := by
  rcases h with ⟨_, A, c, rfl⟩ | ⟨h0, _⟩
  · refine Spec.enter Tryz.func95 rfl Tryz.ntmps95 rfl ?_
    intro w0 hw0
    refine T.seq <| T.region <| SL.w (op_box rfl) ?_
    rintro _ _ _ ⟨B1, rfl, rfl, rfl⟩
    refine SL.v (op_assign (v := .int .i64 ((0 : Nat) : Int)) rfl) <| SL.as rfl <| SL.nil <| T.seq <| T.seq <| T.region <| SL.v (op_fieldAddr fa65_0 rfl) <| SL.v (op_load ty63 rfl (by repeat constructor) rfl) ?_
    refine SL.v (op_lenS Tryz.underlying63 rfl) <| SL.v (op_move (v := .int .i64 ((0 : Nat) : Int)) rfl) <| SL.nil <| T.block <| T.unrollStart 1 ?_
    refine T.unroll ?_
    refine T.seq <| T.region <| SL.v (op_lssF rfl rfl (by omega)) ?_
    refine SL.nil <| T.seq <| T.condF rfl ?_
    refine T.exit (T.exitCode (T.exitMore (T.exitBlk ?_)))
    refine T.seq <| T.region <| SL.v (op_assign (v := .int .i64 ((0 : Nat) : Int)) rfl) <| SL.as rfl <| SL.nil <| T.ret2 rfl (ResIs.tmp rfl) (ResIs.tmp rfl) ?_
    rfl
  · omega

end Go.Proofs.YtmfiencoefbjfaaGreatDoor
namespace Go.Proofs.YtmfiencoefbjfaaGreatDoor
open Go.RowKit
theorem fr_room (ro : Option Nat) (m : Nat) : (FR ro).room m := by simp [Fence.room]
theorem wpIn_dep {ro : Option Nat} {m m' : Nat} {P : Program} {c : Code} {Q : Exit → Act → World → Prop} {a : Act} {w : World} (h : c.wpIn (FR ro) m P Q a w) : c.wpIn (FR ro) m' P Q a w :=
  fun b k cs h1 h2 _ => h b k cs h1 h2 (fr_room _ _)
theorem roundIn_dep {ro : Option Nat} {m m' : Nat} {P : Program} {l : Nat} {f : FuncId} {tmps : Array Value} {assign body : Code} {w : World} {R : Ending → World → Prop} (h : RoundIn (FR ro) m P l f tmps assign body w R) : RoundIn (FR ro) m' P l f tmps assign body w R :=
  ⟨h.1, fun c cs _ => h.2 c cs (fr_room _ _)⟩

/-- The function g hands the values xs to the loop's body, one after the other, and comes back. -/
def Seq (P : Program) (g : Nat) (lb : List Value) (xs : List Value) (X : PMap) : Prop :=
  ∀ (l : Nat) (J : Nat → World → Prop) (W : World), (∀ i A B, J i A → Below A.heap.size A B → J i B) → (∀ i A, J i A → PIn X A) →
    (∀ i x A, J i A → xs[i]? = some x → YieldAt (FR none) DEP P l #[x] A fun e B => e = .returned (.bool true) ∧ J (i + 1) B) →
    J 0 W → Calls P g (.func (.yield l) #[] #[] :: lb).toArray W fun e B => (∃ v, e = .returned v) ∧ J xs.length B

theorem Sat.hold {w : World} {res : List (Nat × Obj)} {X0 X : PMap} {own : Own} {W : World} (h : Sat ⟨w, res⟩ X0 own X W) (o : Obj) : Sat ⟨w, (W.heap.size, o) :: res⟩ X0 own X (W.alloc o) := by
  have hg := Grow.alloc W o
  refine ⟨⟨h.below.alloc h.below.size o, h.old, h.stab.grow hg, h.new, h.apart, h.nodup⟩, fun p hp => ?_⟩
  rcases List.mem_cons.1 hp with rfl | hp
  · exact ⟨heap_alloc_new W o, h.stab.pers.fresh, fun q hq => Nat.ne_of_lt (h.stab.own q hq).lt, h.below.size⟩
  · obtain ⟨h1, h2, h3, h4⟩ := h.res p hp
    exact ⟨(hg.same _ (get_lt h1)).trans h1, h2, h3, h4⟩
theorem Sat.putRes {w : World} {res : List (Nat × Obj)} {X0 X : PMap} {own : Own} {W : World} {l : Nat} {o : Obj} (h : Sat ⟨w, (l, o) :: res⟩ X0 own X W) (hl : ∀ p ∈ res, p.1 ≠ l) (o' : Obj) : Sat ⟨w, (l, o') :: res⟩ X0 own X (W.putObj l o') := by
  obtain ⟨g1, g2, g3, g4⟩ := h.res (l, o) (by simp)
  have hgb : W.grownBy (W.putObj l o') (some l) := grownBy_putObj' W l o'
  refine ⟨⟨h.below.grown hgb h.below.size (fun k e => by cases e; exact g4), h.old, ⟨fun q hq => ?_, fun k ob hk => ?_⟩, h.new, h.apart, h.nodup⟩, fun p hp => ?_⟩
  · obtain ⟨r, hr, hz⟩ := h.stab.own q hq
    exact ⟨r, (World.putObj_heap_other (g3 q hq)).trans hr, hz⟩
  · refine (World.putObj_heap_other (fun e => ?_)).trans (h.stab.pers k ob hk)
    subst e
    simp only at g2
    rw [g2] at hk; cases hk
  · rcases List.mem_cons.1 hp with rfl | hp
    · exact ⟨World.putObj_heap_same (get_lt g1), g2, g3, g4⟩
    · obtain ⟨h1, h2, h3, h4⟩ := h.res p (by simp [hp])
      exact ⟨(World.putObj_heap_other (hl p hp)).trans h1, h2, h3, h4⟩
theorem Sat.drop {w : World} {res : List (Nat × Obj)} {X0 X : PMap} {own : Own} {W : World} {p : Nat × Obj} (h : Sat ⟨w, p :: res⟩ X0 own X W) : Sat ⟨w, res⟩ X0 own X W := ⟨⟨h.below, h.old, h.stab, h.new, h.apart, h.nodup⟩, fun q hq => h.res q (by simp [hq])⟩

section
variable {P : Program} {n : NM} {w : World} {res : List (Nat × Obj)} {X0 X : PMap} {own : Own} {env : Env} {Q : Exit → Act → World → Prop}
/-- Where a round ends. -/
def RQ (w : World) (res : List (Nat × Obj)) (X0 : PMap) (I : Nat → Own → PMap → Prop) (i : Nat) : Exit → Act → World → Prop
  | .normal, _, W => ∃ own X, I i own X ∧ Sat ⟨w, res⟩ X0 own X W
  | _, _, _ => False
theorem T.roundEnd {ro : Option Nat} {I : Nat → Own → PMap → Prop} {i : Nat} (h : I i own X) : T ro P n ⟨w, res⟩ X0 (RQ w res X0 I i) [] none env own X := fun _ _ _ hs => ⟨own, X, h, hs⟩

theorem panicRound {ro : Option Nat} {k : List It} {I : Nat → Own → PMap → Prop} {i : Nat} {d : Option Tmp} {v : Value} : ∀ c a w', contQ ro P (RQ w res X0 I i) k (.panic c) (a.put d v) w' → contQ ro P (RQ w res X0 I i) k (.panic c) a w' := fun _ _ _ h => h.elim
theorem T.rangeFunc {g : Operand} {p d : Tmp} {id : Nat} {ty : TypeId} {pos : String} {af : Array Edge} {body : Code} {k : List It} {gf : Nat} {lb : List Value} {xs : List Value}
    (hg : eev env g = some (.func (.func gf) #[] lb.toArray)) (hE : Enters P gf) (hp : Nat.blt p n.size = true) (hd : Nat.blt d n.size = true) (hseq : Seq P gf lb xs X)
    (I : Nat → Own → PMap → Prop) (h0 : I 0 own X) (hX : ∀ i own' X', I i own' X' → X.le X')
    (round : ∀ i x own' X' l r D, xs[i]? = some x → I i own' X' → T (some l) P ⟨n.size, []⟩ ⟨w, (l, r) :: (D, MarkObj) :: res⟩ X0 (RQ w ((l, r) :: (D, MarkObj) :: res) X0 I (i + 1)) [.code body] none ((d, x) :: (p, x) :: env) own' X')
    (rest : ∀ D own' X', I xs.length own' X' → T none P ⟨n.size, markOf D :: n.marks⟩ ⟨w, (D, MarkObj) :: res⟩ X0 Q k none env own' X') :
    T none P n ⟨w, res⟩ X0 Q (.code (.rangeFunc g #[p] (.region id #[⟨some d, .assign (.tmp p), ty, pos, af, none⟩] false) body) :: k) none env own X := by
  intro a W ha hs
  refine runL_code (Go.wpIn_rangeFunc ?_)
  intro fn hfn
  obtain ⟨asg, hasg⟩ : ∃ c, c = Code.region id #[⟨some d, .assign (.tmp p), ty, pos, af, none⟩] false := ⟨_, rfl⟩
  rw [← hasg]
  obtain ⟨rec, hrec⟩ : ∃ rec : LoopState → Loop, rec = fun st => { state := st, pending := none, fn, tmps := a.tmps, params := #[p], assign := asg, body, defers := W.heap.size } := ⟨_, rfl⟩
  have hs1 := (hs.hold MarkObj).hold (.loop (rec .ready))
  have hsz : (W.alloc MarkObj).heap.size = W.heap.size + 1 := by simp
  rw [hsz] at hs1
  have hfar : ∀ q ∈ ((W.heap.size, MarkObj) :: res), q.1 ≠ W.heap.size + 1 := fun q hq => by
    rcases List.mem_cons.1 hq with rfl | hq
    · simp
    · have := get_lt (hs.res q hq).1
      omega
  have hev : a.eval g = .func (.func gf) #[] lb.toArray := ha.eval hg
  refine ⟨W.heap.size + 1, [markOf W.heap.size], (W.alloc MarkObj).alloc (.loop (rec .ready)), { target := .fn (.func gf) lb.toArray, args := #[.func (.yield (W.heap.size + 1)) #[] #[]] }, (W.alloc MarkObj).alloc (.loop (rec .ready)), gf,
    (Value.func (.yield (W.heap.size + 1)) #[] #[] :: lb).toArray, (W.alloc MarkObj).alloc (.loop (rec .ready)), ?_, ?_, fun _ _ => trivial, ?_, (fun h => by cases h), ?_⟩
  · rw [hrec]; exact run_enterLoop_outer _ _ _ _ _
  · simp only [resolve, hev]
    simp [go_sem]
  · have := hE (Value.func (.yield (W.heap.size + 1)) #[] #[] :: lb).toArray ((W.alloc MarkObj).alloc (.loop (rec .ready)))
    simp [invoke, go_sem, this]
  · refine fr_calls.2 ((hseq (W.heap.size + 1) (fun i A => ∃ own' X', I i own' X' ∧ Sat ⟨w, (W.heap.size + 1, .loop (rec .ready)) :: (W.heap.size, MarkObj) :: res⟩ X0 own' X' A) _ ?_ ?_ ?_ ⟨own, X, h0, hs1⟩).mono ?_)
    · rintro i A B ⟨own', X', hI, hA⟩ hb
      exact ⟨own', X', hI, hA.call hb ((Grow.of_below hb).pin hA.stab.pers) fun _ _ => rfl⟩
    · rintro i A ⟨own', X', hI, hA⟩ k o hk
      exact hA.stab.pers k o (hX i own' X' hI k o hk)
    · rintro i x A ⟨own', X', hI, hA⟩ hx
      have hl := (hA.res (W.heap.size + 1, .loop (rec .ready)) (by simp)).1
      have hy := run_yield (P := P) (args := #[x]) hl (by rw [hrec]; rfl)
      refine ⟨_, _, _, _, hy, roundIn_of_wpIn trivial ?_⟩
      have hps : (rec .ready).params = #[p] := by rw [hrec]
      have htm : (rec .ready).tmps = a.tmps := by rw [hrec]
      have has : (rec .ready).assign = asg := by rw [hrec]
      have hbd : (rec .ready).body = body := by rw [hrec]
      rw [hps, htm, has, hbd]
      have hz : ∀ F : Array Value → Tmp × Value → Array Value, (#[p].zip #[x]).foldl F a.tmps = F a.tmps (p, x) := fun F => by simp
      rw [hz]
      have he : EOk ⟨n.size, []⟩ ((p, x) :: env) { tmps := a.tmps.setIfInBounds p x, defers := [] } := by
        have h1 : EOk ⟨n.size, []⟩ env { tmps := a.tmps, defers := [] } := ⟨rfl, ha.size, ha.get⟩
        exact h1.put hp x
      have hAs : T (some (W.heap.size + 1)) P ⟨n.size, []⟩ ⟨w, (W.heap.size + 1, .loop (rec .ready)) :: (W.heap.size, MarkObj) :: res⟩ X0 (fun e a W2 => match e with
          | .normal => EOk ⟨n.size, []⟩ ((d, x) :: (p, x) :: env) a ∧ Sat ⟨w, (W.heap.size + 1, .loop (rec .ready)) :: (W.heap.size, MarkObj) :: res⟩ X0 own' X' W2
          | _ => False) [.code asg] none ((p, x) :: env) own' X' := by
        rw [hasg]
        refine T.region (ops := [_]) (SL.y (op_assign (v := x) ?_) rfl ?_ ?_)
        · simp [eev, eget]
        · simp [dok, noDefer]; exact Nat.le_of_ble_eq_true hd
        · exact fun a W2 ha hs => ⟨ha, hs⟩
      have hw := runL_code_iff.1 (hAs _ A he hA)
      refine wpIn_dep (m := DEP) (Code.wpIn_mono (fun e a2 W2 h => ?_) hw)
      cases e with
      | normal =>
        obtain ⟨ha2, hs2⟩ := h
        have hl2 := (hs2.res (W.heap.size + 1, .loop (rec .ready)) (by simp)).1
        refine ⟨_, run_beginRound hl2 (by rw [hrec]), ?_⟩
        have hs3 := hs2.putRes hfar (.loop { rec .ready with state := .busy })
        have hb := runL_code_iff.1 (round i x own' X' _ _ _ hx hI a2 _ ha2 hs3)
        refine wpIn_dep (m := DEP) (Code.wpIn_mono (fun e a4 W4 h => ?_) hb)
        cases e with
        | normal =>
          obtain ⟨own4, X4, hI4, hs4⟩ := h
          have hl4 := (hs4.res (W.heap.size + 1, .loop { rec .ready with state := .busy }) (by simp)).1
          refine ⟨_, _, run_endRound none hl4, rfl, own4, X4, hI4, ?_⟩
          have := hs4.putRes hfar (.loop (rec .ready))
          have e2 : ({ { rec .ready with state := .busy } with state := (if (none : Option Code).isNone then .ready else .done), pending := none } : Loop) = rec .ready := by rw [hrec]; rfl
          rw [e2]
          exact this
        | _ => exact h.elim
      | _ => exact h.elim
    · rintro e B ⟨⟨v, rfl⟩, own', X', hI, hB⟩
      have hl := (hB.res (W.heap.size + 1, .loop (rec .ready)) (by simp)).1
      have e3 : ({ rec .ready with state := .exhausted } : Loop) = rec .exhausted := by rw [hrec]
      have e4 : (rec .ready).pending = none := by rw [hrec]
      refine ⟨none, B.putObj (W.heap.size + 1) (.loop (rec .exhausted)), ?_, ?_⟩
      · have := run_endLoop (P := P) hl (by rw [hrec]; simp)
        rw [e3, e4] at this
        exact this
      have hs5 := (hB.putRes hfar (.loop (rec .exhausted))).drop
      have hr := rest W.heap.size own' X' hI { a with defers := [markOf W.heap.size] ++ a.defers } _ ⟨by simp [ha.defers], ha.size, ha.get⟩ hs5
      exact hr

theorem SL.yield {ops : Array Oper} {l' : List Oper} {d : Option Tmp} {c y : Operand} {ts : Array TypeId} {ty : TypeId} {pos : String} {af : Array Edge} {gd : Option (Nat × Bool)} {l : Nat} {x : Value} {J J' : World → Prop}
    (hc : eev env c = some (.func (.yield l) #[] #[])) (hx : eev env y = some x) (hg : gwant ops env gd = some true) (hd : dok n d = true)
    (hJ : ∀ W, Below w.heap.size w W → J W) (hY : ∀ A, J A → YieldAt (FR none) DEP P l #[x] A fun e B => e = .returned (.bool true) ∧ J' B) (hP : ∀ B, J' B → PIn X B)
    (h' : ∀ w1, J' w1 → PIn X w1 → SL none P n ⟨w1, []⟩ X ops Q l' (eput env d (.bool true)) [] X) :
    SL none P n ⟨w, []⟩ X0 ops Q (⟨d, .call { callee := .value c, args := #[y], argTypes := ts }, ty, pos, af, gd⟩ :: l') env [] X := by
  intro a W ha hs
  unfold wpListIn
  rw [if_pos (gwant_spec ha hg)]
  refine ⟨fun _ _ => trivial, ?_⟩
  rw [Oper.semAt_eq _ _ _ (fun _ => by simp)]
  obtain ⟨fn, tmps, assign, body, hy, hr⟩ := hY W (hJ W hs.below)
  have hex : (execOp a.eval ⟨d, .call { callee := .value c, args := #[y], argTypes := ts }, ty, pos, af, gd⟩).run P W = .ok (.round l fn tmps assign body) W := by
    simp only [execOp, resolve, ha.eval hc, Deferred.ofValue, invoke, Sem.run_bind, Sem.run_pure, Result.andThen_ok, List.map_toArray, List.map_cons, List.map_nil, ha.eval hx]
    simp [go_sem, hy]
  rw [hex, Oper.uponIn_round]
  refine ⟨fun h => (by cases h), roundIn_dep (m := DEP) (hr.mono fun e B h => ?_)⟩
  obtain ⟨rfl, hJ'⟩ := h
  exact h' B hJ' (hP B hJ') _ _ (ha.eput hd _) (Sat.start B (hP B hJ'))
/-- A loop of an iterator: each round begins in a world of its own. -/
def FamB := Nat → Env → World → Prop
def backToB (n : NM) (X : PMap) (I : FamB) (m : Nat) : It := .cut fun a W => ∃ m', m' < m ∧ ∃ env w1, I m' env w1 ∧ EOk n env a ∧ Sat ⟨w1, []⟩ X [] X W
theorem T.loopB {c : Code} {k : List It} (I : FamB) (m : Nat) {env' : Env} (h0 : I m env' w) (hw : Sub env env')
    (hX : X = X0) (round : ∀ m env w1, I m env w1 → T none P n ⟨w1, []⟩ X Q (.code c :: backToB n X I m :: k) none env [] X) : T none P n ⟨w, []⟩ X0 Q (.code (.loop c) :: k) none env [] X := by
  subst hX
  intro a W ha hs
  refine runL_code (loop_ghost (fun m a W => ∃ env w1, I m env w1 ∧ EOk n env a ∧ Sat ⟨w1, []⟩ X [] X W) ?_ m a W ⟨env', w, h0, ha.weaken hw.get, hs⟩)
  rintro m a W ⟨env, w1, hI, ha, hs⟩
  refine Code.wpIn_mono (fun e a w h => ?_) (runL_code_iff.1 (round m env w1 hI a W ha hs))
  cases e with
  | normal => exact h
  | exit id => exact h
  | _ => exact h
theorem T.backB {I : FamB} {m : Nat} {k : List It} (m' : Nat) (hm : m' < m) {env' : Env} (hI : I m' env' w) (hw : Sub env env') : T none P n ⟨w, []⟩ X Q (backToB n X I m :: k) none env [] X :=
  fun _ _ ha hs => ⟨m', hm, env', w, hI, ha.weaken hw.get, hs⟩
end
end Go.Proofs.YtmfiencoefbjfaaGreatDoor
namespace Go.Proofs.YtmfiencoefbjfaaGreatDoor
open Go.RowKit
/-- What a call leaves that hands over blocks. -/
def FinO (w0 : World) (X0 : PMap) (Φ : Value → Own → PMap → Prop) (e : Ending) (w' : World) : Prop :=
  ∃ v own X', e = .returned v ∧ SatC w0 X0 own X' w' ∧ Φ v own X'
def SpecO (P : Program) (f : FuncId) (args : List Value) (X0 : PMap) (Φ : Value → Own → PMap → Prop) : Prop := ∀ w, PIn X0 w → Calls P f args.toArray w (FinO w X0 Φ)
theorem SpecO.enter {P : Program} {f : FuncId} {fn : Func} {c : Code} {args : List Value} {X0 : PMap} {Φ : Value → Own → PMap → Prop} (hf : P.funcs[f]? = some fn) (hb : fn.body = some c) {n : Nat} (hn : fn.ntmps = n) (hl : Nat.ble args.length n = true)
    (h : ∀ w, PIn X0 w → T none P ⟨n, []⟩ ⟨w, []⟩ X0 (bodyQ P fn (FinO w X0 Φ)) [.code c] none (argEnv 0 args) [] X0) : SpecO P f args X0 Φ := fun w hw => Calls.enter hf hb hn hl hw (h w hw)
theorem Sat.callO {w0 : Base} {X0 : PMap} {own own1 : Own} {X X' : PMap} {W W' : World} (h : Sat w0 X0 own X W) (h1 : SatC W X own1 X' W') : Sat w0 X0 (own1 ++ own) X' W' := by
  have hg := Grow.of_below h1.below
  refine ⟨⟨h.below.trans (h1.below.mono h.below.size), fun k hk => (h1.old k (Nat.lt_of_lt_of_le hk h.below.size)).trans (h.old k hk), ⟨fun p hp => ?_, h1.stab.pers⟩, fun p hp => ?_, fun p hp => ?_, ?_⟩, fun p hp => ?_⟩
  · rcases List.mem_append.1 hp with hp | hp
    · exact h1.stab.own p hp
    · exact hg.ow (h.stab.own p hp)
  · rcases List.mem_append.1 hp with hp | hp
    · exact Nat.le_trans h.below.size (h1.new p hp)
    · exact h.new p hp
  · rcases List.mem_append.1 hp with hp | hp
    · exact h1.apart p hp
    · exact (h1.old _ (h.stab.own p hp).lt).trans (h.apart p hp)
  · refine List.pairwise_append.2 ⟨h1.nodup, h.nodup, fun a ha b hb => ?_⟩
    have := h1.new a ha
    have := (h.stab.own b hb).lt
    omega
  · obtain ⟨g1, g2, g3, g4⟩ := h.res p hp
    refine ⟨(hg.same _ (get_lt g1)).trans g1, (h1.old _ (get_lt g1)).trans g2, fun q hq => ?_, g4⟩
    rcases List.mem_append.1 hq with hq | hq
    · have := h1.new q hq
      have := get_lt g1
      omega
    · exact g3 q hq

section
variable {ro : Option Nat} {P : Program} {n : NM} {w0 : Base} {X0 X : PMap} {own : Own} {env : Env}
theorem op_callO {f : FuncId} {xs : Array Operand} {ts : Array TypeId} {vs : List Value} {Φ : Value → Own → PMap → Prop} (he : Enters P f) (hx : xs.toList.map (eev env) = vs.map some)
    (h : SpecO P f vs X Φ) : OpX P n w0 X0 env own X (.call { callee := .value (.func f), args := xs, argTypes := ts }) true fun v own' X' => ∃ own1, own' = own1 ++ own ∧ X.le X' ∧ Φ v own1 X' := by
  intro a W oper K Q ro hop ha hs hK
  have all : ∀ (xs : List Operand) (vs : List Value), xs.map (eev env) = vs.map some → xs.map a.eval = vs := by
    intro xs
    induction xs with
    | nil => intro vs h; cases vs <;> simp_all
    | cons x xs ih =>
      intro vs h
      cases vs with
      | nil => simp at h
      | cons v vs =>
        simp only [List.map_cons, List.cons.injEq] at h
        simp [ha.eval h.1, ih vs h.2]
  have h1 : xs.map a.eval = vs.toArray := by apply Array.toList_inj.1; simp [all _ _ hx]
  have hex : (execOp a.eval oper).run P W = .ok (.enter f vs.toArray) W := by
    have hc : a.eval (.func f) = .func (.func f) #[] #[] := ha.eval rfl
    simp only [execOp, hop, resolve, hc, h1, Deferred.ofValue, invoke, Sem.run_bind, Sem.run_pure, Result.andThen_ok]
    simpa using he vs.toArray W
  refine wp_enters (noDefer_spec (by rw [hop]; rfl)) hex ((h W hs.stab.pers).mono fun e w' hfin => ?_)
  obtain ⟨v, own1, X', rfl, hc, hΦ⟩ := hfin
  refine ⟨v, rfl, ?_⟩
  exact hK v _ X' w' ⟨own1, rfl, fun q o hq => (hc.old q (hs.stab.pers.lt hq)).trans hq, hΦ⟩ (hs.callO hc) fun _ => Grow.of_below hc.below
variable {fn : Func} {Φ : Value → Own → PMap → Prop}
theorem T.retO {w : World} {v : Value} {k : List It} {s : Nat} (hr : ∀ a W, EOk ⟨s, []⟩ env a → Stab own X W → (results fn a.tmps).run P W = .ok v W) (hΦ : Φ v own X) : T ro P ⟨s, []⟩ ⟨w, []⟩ X0 (bodyQ P fn (FinO w X0 Φ)) (.code .ret :: k) none env own X :=
  fun a W ha hs => runL_ret (by
    show LeavesInM (FR none) DEP P fn a.tmps _ a.defers .returning W
    rw [ha.defers]
    exact ⟨v, hr a W ha hs.stab, v, own, X, rfl, hs.toSatC, hΦ⟩)
theorem T.retO1 {w : World} {k : List It} {s : Nat} {r : ResultVar} {v : Value} (hr : fn.results = #[r]) (h : ResIs P env own r v) (hΦ : Φ v own X) : T ro P ⟨s, []⟩ ⟨w, []⟩ X0 (bodyQ P fn (FinO w X0 Φ)) (.code .ret :: k) none env own X := T.retO (fun _ _ ha hs => run_results1 hr h ha hs) hΦ
theorem T.retO2 {w : World} {k : List It} {s : Nat} {r r' : ResultVar} {v v' : Value} (hr : fn.results = #[r, r']) (h : ResIs P env own r v) (h' : ResIs P env own r' v') (hΦ : Φ (.tuple #[v, v']) own X) : T ro P ⟨s, []⟩ ⟨w, []⟩ X0 (bodyQ P fn (FinO w X0 Φ)) (.code .ret :: k) none env own X := T.retO (fun _ _ ha hs => run_results2 hr h h' ha hs) hΦ

theorem T.retOS1 {w : World} {k : List It} {s : Nat} {r : ResultVar} {v : Value} {own' : Own} (hr : fn.results = #[r]) (h : ResIs P env own r v) (hsub : own'.Sublist own) (hΦ : Φ v own' X) : T ro P ⟨s, []⟩ ⟨w, []⟩ X0 (bodyQ P fn (FinO w X0 Φ)) (.code .ret :: k) none env own X :=
  fun a W ha hs => runL_ret (by
    show LeavesInM (FR none) DEP P fn a.tmps _ a.defers .returning W
    rw [ha.defers]
    exact ⟨v, run_results1 hr h ha hs.stab, v, own', X, rfl, (hs.sub hsub).toSatC, hΦ⟩)
theorem T.perm {Q : Exit → Act → World → Prop} {k : List It} {e : Option Nat} {own' : Own} (hp : own.Perm own') (h : T ro P n w0 X0 Q k e env own' X) : T ro P n w0 X0 Q k e env own X := fun a W ha hs => h a W ha (hs.perm hp)
theorem SL.perm {ops : Array Oper} {Q : Exit → Act → World → Prop} {l : List Oper} {own' : Own} (hp : own.Perm own') (h : SL ro P n w0 X0 ops Q l env own' X) : SL ro P n w0 X0 ops Q l env own X := fun a W ha hs => h a W ha (hs.perm hp)
theorem perm3 {a b c : Ow} {R G : Own} : (a :: b :: c :: (R ++ G)).Perm (b :: c :: ((R ++ [a]) ++ G)) := by
  have p1 : (a :: (R ++ G)).Perm ((R ++ [a]) ++ G) := by simpa using (List.perm_middle (a := a) (l₁ := R) (l₂ := G)).symm
  exact ((List.Perm.swap b a _).trans (List.Perm.cons b (List.Perm.swap c a _))).trans ((p1.cons c).cons b)
theorem AtO.of_get : ∀ {l : Own} {j b sz : Nat} {cs : List Value} {ty : TypeId}, l[j]? = some ⟨b, cs, ty, sz⟩ → AtO l b cs ty sz j
  | [], _, _, _, _, _, h => by simp at h
  | o :: l, 0, _, _, _, _, h => by
    simp at h
    subst h
    exact AtO.here
  | o :: l, j + 1, _, _, _, _, h => AtO.there (AtO.of_get (by simpa using h))
theorem Sat.pubList {own0 : Own} {W : World} : ∀ (R : Own) (X : PMap), Sat w0 X0 (R ++ own0) X W → ∃ X', X.le X' ∧ (∀ p ∈ R, Blk X' p.b p.cs) ∧ Sat w0 X0 own0 X' W
  | [], X, h => ⟨X, PMap.le_refl X, (fun p hp => by cases hp), h⟩
  | ⟨b, cs, ty, sz⟩ :: R, X, h => by
    obtain ⟨X1, h1, h2, _, h4⟩ := h.pub (AtO.here (l := R ++ own0))
    obtain ⟨X2, g1, g2, g3⟩ := Sat.pubList R X1 h4
    refine ⟨X2, PMap.le_trans h1 g1, fun p hp => ?_, g3⟩
    rcases List.mem_cons.1 hp with rfl | hp
    · exact h2.mono g1
    · exact g2 p hp
theorem T.pubList {Q : Exit → Act → World → Prop} {k : List It} {e : Option Nat} {R own0 : Own} (h : ∀ X', X.le X' → (∀ p ∈ R, Blk X' p.b p.cs) → T ro P n w0 X0 Q k e env own0 X') : T ro P n w0 X0 Q k e env (R ++ own0) X := by
  intro a W ha hs
  obtain ⟨X', h1, h2, h3⟩ := Sat.pubList R X hs
  exact h X' h1 h2 a W ha h3
/-- make([]T, l, c) of whatever size an element has. -/
theorem op_makeR {t e : TypeId} {x y : Operand} {bytes l c size : Nat} {kl kc : IntKind} {zs : List Value} (ht : P.underlying t = some (.slice e)) (he : ∃ i z, P.info? e = some i ∧ i.size = size ∧ i.bytes = bytes ∧ i.zero = some z ∧ z.cells = zs.toArray) (hzs : zs.length = size)
    (hx : eev env x = some (.int kl (l : Int))) (hy : eev env y = some (.int kc (c : Int))) (hlc : l ≤ c) (hb : bytes * c ≤ 140737488355328) (hc : c ≤ 9223372036854775807) :
    OpX P n w0 X0 env own X (.makeSlice t x y) true fun v own' X' => ∃ b, v = .slice (some ⟨b, 0, none⟩) l c ∧ own' = ⟨b, (List.replicate l zs).flatten, e, c * size⟩ :: own ∧ X = X' := by
  intro a W oper K Q ro hop ha hs hK
  obtain ⟨i, z, h1, h2, h3, h4, h5⟩ := he
  have hbi : (i.bytes : Int) * (c : Int) ≤ 281474976710656 := by
    have : ((i.bytes * c : Nat) : Int) ≤ 281474976710656 := by rw [h3]; omega
    rwa [Int.natCast_mul] at this
  have hr := run_make (P := P) W t e i z ht h1 h4 kl kc (l : Int) (c : Int) (by omega) (by omega) hbi (by omega)
  have hmc : madeCells zs.toArray (c * size) = (List.replicate c zs).flatten.toArray := by
    have := rep_cells zs c
    rw [hzs] at this
    rw [← this]
    apply Array.toList_inj.1
    simp [madeCells, hzs]
  simp only [Int.toNat_natCast, h2, h5, hmc] at hr
  refine wp_value (v := .slice (some ⟨W.heap.size, 0, none⟩) l c) (W' := W.alloc (.cells (List.replicate c zs).flatten.toArray e)) (noDefer_spec (by rw [hop]; rfl)) ?_ (hK _ (⟨W.heap.size, (List.replicate l zs).flatten, e, c * size⟩ :: own) X _ ⟨_, rfl, rfl, rfl⟩ ?_ fun _ => Grow.alloc W _)
  · simp [execOp, hop, ha.eval hx, ha.eval hy, hr]
  · have h1 := hs.alloc (List.replicate c zs).flatten e
    have e1 : (List.replicate c zs).flatten = (List.replicate l zs).flatten ++ (List.replicate (c - l) zs).flatten := by
      rw [← List.flatten_append, List.replicate_append_replicate]; congr 2; omega
    have e2 : (List.replicate c zs).flatten.length = c * size := by simp [hzs]
    rw [e2] at h1
    rw [show (⟨W.heap.size, (List.replicate c zs).flatten, e, c * size⟩ : Ow) = ⟨W.heap.size, (List.replicate l zs).flatten ++ (List.replicate (c - l) zs).flatten, e, c * size⟩ by rw [← e1]] at h1
    exact h1.forget
theorem mr_of {e : TypeId} {size bytes : Nat} {zs : List Value} (h : (P.info? e).map (fun i => (i.size, i.bytes, i.zero.map fun z => z.cells)) = some (size, bytes, some zs.toArray)) : ∃ i z, P.info? e = some i ∧ i.size = size ∧ i.bytes = bytes ∧ i.zero = some z ∧ z.cells = zs.toArray := by
  cases hi : P.info? e with
  | none => simp [hi] at h
  | some i =>
    cases hz : i.zero with
    | none => simp [hi, hz] at h
    | some z =>
      simp only [hi, Option.map_some, hz, Option.some.injEq, Prod.mk.injEq] at h
      exact ⟨i, z, rfl, h.1, h.2.1, hz, h.2.2⟩
end
end Go.Proofs.YtmfiencoefbjfaaGreatDoor
namespace Go.Proofs.YtmfiencoefbjfaaGreatDoor
open Go.RowKit
section
variable {P : Program} {n : NM} {w0 : Base} {X0 X : PMap} {own : Own} {env : Env}
/-- The start of a slice of a slice. -/
def slA (A : Option Addr) (cap l size : Nat) : Option Addr := if cap = l then A else A.map (·.add (l * size))
/-- The part of a slice from l on, read. -/
theorem Src.lo {s : Value} {len size l cap : Nat} {A : Option Addr} {cs : List Value} (h : SliceR X s len cs) (hs : s = .slice A len cap) (hc : cs.length = len * size) (h1 : l ≤ len) (h2 : len ≤ cap) : Src own X (.slice (slA A cap l size) (len - l) (cap - l)) (len - l) size (cs.drop (l * size)) := by
  subst hs
  rcases h with ⟨rfl, rfl, _⟩ | ⟨h0, b, c, hv, hb⟩
  · obtain rfl : l = 0 := by omega
    simpa using Src.nil
  · simp only [Value.slice.injEq, true_and] at hv
    obtain ⟨rfl, rfl⟩ := hv
    unfold slA
    by_cases he : cap = l
    · rw [if_pos he]
      have e : len = l := by omega
      rw [e, Nat.sub_self, List.drop_eq_nil_of_le (by rw [hc, e]; exact Nat.le_refl _)]
      exact Src.nil
    · rw [if_neg he]
      have hm : l * size + (len - l) * size = len * size := by rw [← Nat.add_mul]; congr 1; omega
      have := Src.ofExt (own := own) (m := len - l) (c := cap - l) (size := size) (o := l * size) hb (by omega)
      have e2 : (cs.drop (l * size)).take ((len - l) * size) = cs.drop (l * size) := List.take_of_length_le (by simp; omega)
      rw [e2] at this
      show Src own X (.slice (some (Addr.add ⟨b, 0, none⟩ (l * size))) _ _) _ _ _
      rw [Addr.add_mid, Nat.zero_add]
      exact this
/-- The first l elements of a slice, read. -/
theorem Src.hi {s : Value} {len size l cap : Nat} {A : Option Addr} {cs : List Value} (h : SliceR X s len cs) (hs : s = .slice A len cap) (hc : cs.length = len * size) (h1 : l ≤ len) : Src own X (.slice (slA A cap 0 size) l cap) l size (cs.take (l * size)) := by
  subst hs
  have hA : slA A cap 0 size = if cap = 0 then A else A.map (·.add 0) := by simp [slA]
  rcases h with ⟨rfl, rfl, _⟩ | ⟨h0, b, c, hv, hb⟩
  · obtain rfl : l = 0 := by omega
    simpa using Src.nil
  · simp only [Value.slice.injEq, true_and] at hv
    obtain ⟨rfl, rfl⟩ := hv
    have hle : l * size ≤ len * size := Nat.mul_le_mul_right _ h1
    have := Src.ofExt (own := own) (m := l) (c := cap) (size := size) (o := 0) hb (by omega)
    rw [hA]
    split <;> simpa [Addr.add] using this
end
end Go.Proofs.YtmfiencoefbjfaaGreatDoor
namespace Go.Proofs.YtmfiencoefbjfaaGreatDoor
open Go.RowKit
/-- What a call leaves that was lent blocks. -/
def FinM (w0 : Base) (X0 : PMap) (own0 : Own) (Φ : Value → Own → PMap → Prop) (e : Ending) (w' : World) : Prop :=
  ∃ v L' X', e = .returned v ∧ Sat w0 X0 (L' ++ own0) X' w' ∧ Φ v L' X'
def SpecM (P : Program) (f : FuncId) (args : List Value) (X : PMap) (L : Own) (Φ : Value → Own → PMap → Prop) : Prop :=
  ∀ (w0 : Base) (X0 : PMap) (own0 : Own) (W : World), Sat w0 X0 (L ++ own0) X W → Calls P f args.toArray W (FinM w0 X0 own0 fun v L' X' => X.le X' ∧ Φ v L' X')
theorem Calls.enterM {P : Program} {f : FuncId} {fn : Func} {c : Code} {args : List Value} {R : Ending → World → Prop} {w0 : Base} {X0 X : PMap} {own : Own} {W : World} (hf : P.funcs[f]? = some fn) (hb : fn.body = some c) {n : Nat} (hn : fn.ntmps = n) (hl : Nat.ble args.length n = true) (hs : Sat w0 X0 own X W)
    (h : T none P ⟨n, []⟩ w0 X0 (bodyQ P fn R) [.code c] none (argEnv 0 args) own X) : Calls P f args.toArray W R := by
  have hl' : args.length ≤ n := Nat.le_of_ble_eq_true hl
  refine (fr_calls (ro := none) (m := DEP)).1 (callsIn_of_wp_marks (F := FR none) hf hb trivial ?_)
  have := h { tmps := args.toArray ++ Array.replicate (fn.ntmps - args.toArray.size) undef, defers := [] } W ⟨rfl, by simp; omega, fun t v ht => ?_⟩ hs
  · refine Code.wpIn_mono (fun e a w h => bodyQ_post _ _ _ ?_) (runL_code_iff.1 this)
    cases e <;> exact h
  · obtain ⟨_, h2⟩ := eget_argEnv _ _ _ _ ht
    simp only [Nat.sub_zero] at h2
    have hlt : t < args.length := by
      rcases Nat.lt_or_ge t args.length with h1 | h1
      · exact h1
      · rw [List.getElem?_eq_none h1] at h2; cases h2
    rw [List.getElem?_eq_getElem hlt] at h2
    simp only [Option.some.injEq] at h2
    subst h2
    have : t < args.length + (n - args.length) := by omega
    simp [Array.getD, hn, this, hlt]
theorem SpecM.enter {P : Program} {f : FuncId} {fn : Func} {c : Code} {args : List Value} {X : PMap} {L : Own} {Φ : Value → Own → PMap → Prop} (hf : P.funcs[f]? = some fn) (hb : fn.body = some c) {n : Nat} (hn : fn.ntmps = n) (hl : Nat.ble args.length n = true)
    (h : ∀ w0 X0 own0, T none P ⟨n, []⟩ w0 X0 (bodyQ P fn (FinM w0 X0 own0 fun v L' X' => X.le X' ∧ Φ v L' X')) [.code c] none (argEnv 0 args) (L ++ own0) X) : SpecM P f args X L Φ :=
  fun w0 X0 own0 _ hs => Calls.enterM hf hb hn hl hs (h w0 X0 own0)
section
variable {ro : Option Nat} {P : Program} {n : NM} {w0 : Base} {X0 X : PMap} {own : Own} {env : Env}
theorem op_callM {f : FuncId} {xs : Array Operand} {ts : Array TypeId} {vs : List Value} {L own0 : Own} {Φ : Value → Own → PMap → Prop} (he : Enters P f) (hx : xs.toList.map (eev env) = vs.map some)
    (h : SpecM P f vs X L Φ) (hown : own = L ++ own0) : OpX P n w0 X0 env own X (.call { callee := .value (.func f), args := xs, argTypes := ts }) false fun v own' X' => ∃ L', own' = L' ++ own0 ∧ X.le X' ∧ Φ v L' X' := by
  subst hown
  intro a W oper K Q ro hop ha hs hK
  have all : ∀ (xs : List Operand) (vs : List Value), xs.map (eev env) = vs.map some → xs.map a.eval = vs := by
    intro xs
    induction xs with
    | nil => intro vs h; cases vs <;> simp_all
    | cons x xs ih =>
      intro vs h
      cases vs with
      | nil => simp at h
      | cons v vs =>
        simp only [List.map_cons, List.cons.injEq] at h
        simp [ha.eval h.1, ih vs h.2]
  have h1 : xs.map a.eval = vs.toArray := by apply Array.toList_inj.1; simp [all _ _ hx]
  have hex : (execOp a.eval oper).run P W = .ok (.enter f vs.toArray) W := by
    have hc : a.eval (.func f) = .func (.func f) #[] #[] := ha.eval rfl
    simp only [execOp, hop, resolve, hc, h1, Deferred.ofValue, invoke, Sem.run_bind, Sem.run_pure, Result.andThen_ok]
    simpa using he vs.toArray W
  refine wp_enters (noDefer_spec (by rw [hop]; rfl)) hex ((h w0 X0 own0 W hs).mono fun e w' hfin => ?_)
  obtain ⟨v, L', X', rfl, hc, hX, hΦ⟩ := hfin
  exact ⟨v, rfl, hK v _ X' w' ⟨L', rfl, hX, hΦ⟩ hc (fun h => by cases h)⟩
variable {fn : Func} {Φ : Value → Own → PMap → Prop}
theorem T.retM {v : Value} {k : List It} {s : Nat} {own0 L' : Own} (hr : ∀ a W, EOk ⟨s, []⟩ env a → Stab own X W → (results fn a.tmps).run P W = .ok v W) (hp : own.Perm (L' ++ own0)) (hΦ : Φ v L' X) : T ro P ⟨s, []⟩ w0 X0 (bodyQ P fn (FinM w0 X0 own0 Φ)) (.code .ret :: k) none env own X :=
  fun a W ha hs => runL_ret (by
    show LeavesInM (FR none) DEP P fn a.tmps _ a.defers .returning W
    rw [ha.defers]
    exact ⟨v, hr a W ha hs.stab, v, L', X, rfl, hs.perm hp, hΦ⟩)
theorem T.doneM {v : Value} {s : Nat} {own0 L' : Own} (hr : ∀ a W, EOk ⟨s, []⟩ env a → Stab own X W → (results fn a.tmps).run P W = .ok v W) (hp : own.Perm (L' ++ own0)) (hΦ : Φ v L' X) : T ro P ⟨s, []⟩ w0 X0 (bodyQ P fn (FinM w0 X0 own0 Φ)) [] none env own X :=
  fun a W ha hs => (by
    show LeavesInM (FR none) DEP P fn a.tmps _ a.defers .returning W
    rw [ha.defers]
    exact ⟨v, hr a W ha hs.stab, v, L', X, rfl, hs.perm hp, hΦ⟩)
theorem T.doneM0 {s : Nat} {own0 : Own} (L' : Own) (hr : fn.results = #[]) (hp : own.Perm (L' ++ own0)) (hΦ : Φ (.tuple #[]) L' X) : T ro P ⟨s, []⟩ w0 X0 (bodyQ P fn (FinM w0 X0 own0 Φ)) [] none env own X := T.doneM (fun _ _ _ _ => run_results0 hr) hp hΦ
theorem T.retM1 {k : List It} {s : Nat} {own0 : Own} (L' : Own) {r : ResultVar} {v : Value} (hr : fn.results = #[r]) (h : ResIs P env own r v) (hp : own.Perm (L' ++ own0)) (hΦ : Φ v L' X) : T ro P ⟨s, []⟩ w0 X0 (bodyQ P fn (FinM w0 X0 own0 Φ)) (.code .ret :: k) none env own X := T.retM (fun _ _ ha hs => run_results1 hr h ha hs) hp hΦ
theorem permA {a : Ow} {G O : Own} : ([a] ++ (G ++ O)).Perm ((a :: O) ++ G) := List.Perm.cons a (show (G ++ O).Perm (O ++ G) from List.perm_append_comm)
theorem permL {x a : Ow} {G O : Own} : (x :: ([a] ++ (G ++ O))).Perm (x :: ((a :: O) ++ G)) := List.Perm.cons x permA
theorem permC {a g : Ow} {O : Own} : ((a :: [g]) ++ O).Perm ((a :: O) ++ [g]) := List.Perm.cons a (show ([g] ++ O).Perm (O ++ [g]) from List.perm_append_comm)
theorem permD {a : Ow} {G O : Own} : ((a :: O) ++ G).Perm ((a :: G) ++ O) := List.Perm.cons a (show (O ++ G).Perm (G ++ O) from List.perm_append_comm)
theorem Ow.In.shape {p : Ow} {W : World} (h : p.In W) : W.shape? p.b = some (p.ty, p.sz) := by
  obtain ⟨r, h, hz⟩ := h
  simp [World.shape?, h, hz]
/-- A pointer to a block of the call's own, as unsafe.Pointer. -/
theorem op_toUns {src dst t ty : TypeId} {x : Operand} {b sz j : Nat} {cs : List Value} (hs : P.underlying src = some (.pointer t)) (hd : P.underlying dst = some .unsafePointer) {size : Nat} (ht : (P.info? t).map (·.size) = some (size + 1)) (hx : eev env x = some (.pointer (some ⟨b, 0, none⟩)))
    (ho : AtO own b cs ty sz j) (h0 : 0 < sz) : OpY P n env own X (.convert src dst x) (.pointer (some ⟨b, 0, none⟩)) := by
  intro a W oper hop ha hst
  obtain ⟨i, hi, hz⟩ := Option.map_eq_some_iff.1 ht
  have := Lib.run_to_unsafe (P := P) W ⟨b, 0, none⟩ hs hd hi (by omega) ((hst.own _ ho.mem).shape) h0
  simp [execOp, hop, ha.eval hx, this]
theorem op_fromUns {src dst u ty : TypeId} {x : Operand} {b sz j : Nat} {cs : List Value} (hs : P.underlying src = some .unsafePointer) (hd : P.underlying dst = some (.pointer u)) {size : Nat} (hu : (P.info? u).map (·.size) = some size) (hx : eev env x = some (.pointer (some ⟨b, 0, none⟩)))
    (ho : AtO own b cs ty sz j) (hl : liesAt P P.depth ty (sz / P.cellsOf ty) 0 u 1 = true) : OpY P n env own X (.convert src dst x) (.pointer (some ⟨b, 0, none⟩)) := by
  intro a W oper hop ha hst
  obtain ⟨i, hi, hz⟩ := Option.map_eq_some_iff.1 hu
  have := Lib.run_from_unsafe (P := P) W ⟨b, 0, none⟩ hs hd hi ((hst.own _ ho.mem).shape) hl
  simp [execOp, hop, ha.eval hx, this]
/-- abi.NoEscape: the pointer as it is. -/
theorem op_noEsc {f : FuncId} {gn : Func} {x : Operand} {ts : Array TypeId} {v : Value} (hf : P.funcs[f]? = some gn) (h1 : (gn.name == "runtime.NumGoroutine") = false) (h2 : gn.body.isNone = true) (h3 : Extern.findNext gn = none) (h4 : Extern.find gn = some Extern.AbiNoEscape.same) (hx : eev env x = some v) :
    OpY P n env own X (.call { callee := .value (.func f), args := #[x], argTypes := ts }) v := by
  intro a W oper hop ha _
  have hc : a.eval (.func f) = .func (.func f) #[] #[] := ha.eval rfl
  have hr := run_callFunc_extern hf h1 h2 h3 h4 #[v] W
  rw [Lib.run_noEscape] at hr
  simp only [execOp, hop, resolve, hc, Deferred.ofValue, invoke, Sem.run_bind, Sem.run_pure, Result.andThen_ok]
  simpa [ha.eval hx] using hr
theorem op_neqSame {tp te : TypeId} {x y : Operand} {t' : TypeId} {A : Addr} {size : Nat} (hp : P.underlying tp = some (.pointer te)) (hte : (P.info? te).map (·.size) = some size) (hx : eev env x = some (.pointer (some A))) (hy : eev env y = some (.pointer (some A))) :
    OpY P n env own X (.binOp .neq tp x y t') (.bool false) := by
  intro a W oper hop ha _
  obtain ⟨i, hi, _⟩ := Option.map_eq_some_iff.1 hte
  have := Lib.run_neq_ptr_same (P := P) W A hp hi
  have h0 : ∀ (e : BinOp) (u v : Operand), eqGuard e tp u v (.pointer (some A)) (.pointer (some A)) = pure () := fun e u v => by cases e <;> rfl
  simp only [execOp, hop, ha.eval hx, ha.eval hy, h0, Sem.run_bind, Sem.run_pure, Result.andThen_ok, this]
theorem op_sliceData {x : Operand} {ts : Array TypeId} {b l c : Nat} (hx : eev env x = some (.slice (some ⟨b, 0, none⟩) l c)) (hc : c ≠ 0) : OpY P n env own X (.call { callee := .builtin .unsafeSliceData, args := #[x], argTypes := ts }) (.pointer (some ⟨b, 0, none⟩)) := by
  intro a W oper hop ha _
  have hr := Lib.run_unsafeSliceData_row (P := P) W ts oper.type ⟨b, 0, none⟩ l c hc
  simp only [execOp, hop, resolve, invoke, builtin, Sem.run_bind, Sem.run_pure, Result.andThen_ok, List.map_toArray, List.map_cons, List.map_nil, ha.eval hx, hr]
theorem freeze_far {W : World} {p : Addr} {m k : Nat} (h : k ≠ p.block) : (W.freeze p m).heap[k]? = W.heap[k]? := by
  unfold World.freeze
  split
  · rfl
  · simp [Array.getElem?_modify, Ne.symm h]
theorem SatC.freeze {w0 : World} {W : World} {b sz m : Nat} {cs : List Value} {ty : TypeId} (h : SatC w0 X0 (own ++ [⟨b, cs, ty, sz⟩]) X W) : SatC w0 X0 own X (W.freeze ⟨b, 0, none⟩ m) := by
  have hm : (⟨b, cs, ty, sz⟩ : Ow) ∈ own ++ [⟨b, cs, ty, sz⟩] := by simp
  have hne : ∀ q ∈ own, q.b ≠ b := fun q hq => (List.pairwise_append.1 h.nodup).2.2 q hq ⟨b, cs, ty, sz⟩ (by simp)
  refine ⟨Lib.below_freeze h.below (h.new _ hm) m, h.old, ⟨fun q hq => ?_, fun k o hk => ?_⟩, fun q hq => h.new q (List.mem_append_left _ hq), fun q hq => h.apart q (List.mem_append_left _ hq), (List.pairwise_append.1 h.nodup).1⟩
  · obtain ⟨r, h1, h2⟩ := h.stab.own q (List.mem_append_left _ hq)
    exact ⟨r, (freeze_far (hne q hq)).trans h1, h2⟩
  · have hkb : k ≠ b := fun e => by subst e; have := h.apart _ hm; simp only at this; rw [this] at hk; cases hk
    exact (freeze_far hkb).trans (h.stab.pers k o hk)
theorem Sat.freeze {W : World} {b sz m : Nat} {cs : List Value} {ty : TypeId} (h : Sat w0 X0 (own ++ [⟨b, cs, ty, sz⟩]) X W) : Sat w0 X0 own X (W.freeze ⟨b, 0, none⟩ m) :=
  ⟨h.toSatC.freeze, fun p hp => by
    obtain ⟨g1, g2, g3, g4⟩ := h.res p hp
    have hb : b ≠ p.1 := g3 ⟨b, cs, ty, sz⟩ (by simp)
    exact ⟨(freeze_far (Ne.symm hb)).trans g1, g2, fun q hq => g3 q (List.mem_append_left _ hq), g4⟩⟩
/-- unsafe.String over what has grown: the bytes; the row is given up. -/
theorem op_unsafeStr {x y : Operand} {pt it e : TypeId} {b cap : Nat} {l : List UInt8} (hp : P.underlying pt = some (.pointer e)) (hc : P.cellsOf e = 1) (hx : eev env x = some (.pointer (some ⟨b, 0, none⟩))) (hy : eev env y = some (.int .i64 (l.length : Int))) (h0 : l ≠ []) (hl : l.length ≤ cap) (hm : cap ≤ maxLen) :
    OpX P n w0 X0 env (own ++ [⟨b, Lib.byteCells l, e, cap * 1⟩]) X (.call { callee := .builtin .unsafeString, args := #[x, y], argTypes := #[pt, it] }) false fun v own' X' => v = .string ⟨l.toArray⟩ ∧ own' = own ∧ X = X' := by
  intro a W oper K Q ro hop ha hs hK
  have hin := hs.stab.own ⟨b, Lib.byteCells l, e, cap * 1⟩ (by simp)
  have hcell : ∀ j x, l[j]? = some x → W.cell? ((⟨b, 0, none⟩ : Addr).add j) = some (.int .u8 x.toNat) := fun j x hj => by
    rw [Addr.add_mid, Nat.zero_add]
    exact hin.cell (by simp [Lib.byteCells, hj])
  have hmx : maxLen = 9223372036854775807 := rfl
  have hr := Lib.run_unsafeString_row (P := P) W pt it oper.type e hp hc b (cap * 1) hin.shape l h0 (by omega) (by omega) hcell
  have hex : (execOp a.eval oper).run P W = .ok (.value (.string ⟨l.toArray⟩)) (W.freeze ⟨b, 0, none⟩ l.length) := by
    simp only [execOp, hop, resolve, invoke, builtin, Sem.run_bind, Sem.run_pure, Result.andThen_ok, List.map_toArray, List.map_cons, List.map_nil, ha.eval hx, ha.eval hy, hr]
  exact wp_value (noDefer_spec (by rw [hop]; rfl)) hex (hK _ _ X _ ⟨rfl, rfl, rfl⟩ hs.freeze (fun h => by cases h))
end
end Go.Proofs.YtmfiencoefbjfaaGreatDoor
namespace Go.Proofs.YtmfiencoefbjfaaGreatDoor
open Go.RowKit
theorem mem64_drop {m x i t q : Nat} (h : (mem64 m).drop i = mem64 x) (hx : x = 2 ^ t * (2 * q + 1)) (ht : t < 64) : (mem64 m)[i]? = some t ∧ (mem64 m).drop (i + 1) = mem64 (2 ^ t * (2 * q)) := by
  rw [hx, mem64_cons t q ht] at h
  refine ⟨?_, ?_⟩
  · have := congrArg (·[0]?) h
    simpa using this
  · have := congrArg (List.drop 1) h
    simpa using this
theorem all_seq {X : PMap} (hT : Tab X) {v : Value} {m B : Nat} (h : SetR X v m) (hbox : Blk X B (vcells v)) : Seq Tryz.prog 85 [.pointer (some ⟨B, 0, none⟩)] (ints (mem64 m)) X := by
  intro l J w0 hst hP hY hJ0
  have hw0 := hP 0 w0 hJ0
  rcases h with ⟨rfl, A, c, rfl⟩ | ⟨_, h1, b, c, rest, rfl, hB⟩
  · refine Calls.enter Tryz.func85 rfl Tryz.ntmps85 rfl hw0 ?_
    refine T.seq <| T.region <| SL.v (op_fieldAddr fa65_0 rfl) <| SL.v (op_loadX ty63 rfl (by assumption) rfl) ?_
    refine SL.v (op_lenS Tryz.underlying63 rfl) <| SL.v (op_move (v := .int .i64 ((0 : Nat) : Int)) rfl) <| SL.nil <| T.block <| T.unrollStart 1 ?_
    refine T.unroll ?_
    refine T.seq <| T.region <| SL.v (op_lssF rfl rfl (by omega)) ?_
    refine SL.nil <| T.seq <| T.condF rfl ?_
    refine T.exit (T.exitCode (T.exitMore (T.exitBlk ?_)))
    refine T.done0 rfl ?_
    intro W' hb hp
    exact ⟨⟨_, rfl⟩, by simpa [mem64_zero, ints] using hst 0 _ _ hJ0 hb⟩
  · refine Calls.enter Tryz.func85 rfl Tryz.ntmps85 rfl hw0 ?_
    refine T.seq <| T.region <| SL.v (op_fieldAddr fa65_0 rfl) <| SL.v (op_loadX ty63 rfl (by assumption) rfl) ?_
    refine SL.v (op_lenS Tryz.underlying63 rfl) <| SL.v (op_move (v := .int .i64 ((0 : Nat) : Int)) rfl) <| SL.nil <| T.block <| T.unrollStart 2 ?_
    refine T.unroll ?_
    refine T.seq <| T.region <| SL.v (op_lssT rfl rfl (by omega)) ?_
    refine SL.nil <| T.seq <| T.condT rfl <| T.skip <| T.seq <| T.block <| T.seq <| T.region <| SL.mv rfl <| SL.v (op_indexN Tryz.underlying63 ty108 rfl rfl (by omega)) ?_
    refine SL.v (op_loadX ty108 rfl (by assumption) rfl) ?_
    refine SL.as rfl <| SL.as rfl <| SL.nil <| T.block <| T.loopB (fun mm env w1 => ∃ i x, x = mm ∧ x < 18446744073709551616 ∧ i ≤ (mem64 m).length ∧ (mem64 m).drop i = mem64 x ∧ J i w1 ∧ env = [(0, .func (.yield l) #[] #[]), (3, .int .i64 ((0 : Nat) : Int)), (4, .int .u64 (x : Int)), (7, .int .i64 ((1 : Nat) : Int)), (8, .int .i64 ((0 : Nat) : Int))]) m ⟨0, m, rfl, h1, by omega, by simp, hJ0, rfl⟩ (by repeat (first | exact Sub.nil | refine Sub.cons rfl ?_)) rfl ?_
    rintro mm _ w1 ⟨i, x, rfl, hx, hi, hdrop, hJ, rfl⟩
    by_cases hx0 : x = 0
    · subst hx0
      have hi' : i = (mem64 m).length := by
        rw [mem64_zero] at hdrop
        have := List.drop_eq_nil_iff.1 hdrop
        omega
      subst hi'
      refine T.seq <| T.seq <| T.region <| SL.mv rfl <| SL.v (op_neqF rfl rfl (by omega)) ?_
      refine SL.nil <| T.condF rfl ?_
      refine T.exit (T.exitCode (T.exitCut (T.exitBlk ?_)))
      refine T.blk <| T.region <| SL.v (op_addN (q := 1) rfl rfl (by omega)) ?_
      refine SL.mv rfl <| SL.nil <| T.unroll ?_
      refine T.seq <| T.region <| SL.v (op_lssF rfl rfl (by omega)) ?_
      refine SL.nil <| T.seq <| T.condF rfl ?_
      refine T.exit (T.exitCode (T.exitMore (T.exitBlk ?_)))
      refine T.done0 rfl ?_
      intro W' hb hp
      exact ⟨⟨_, rfl⟩, by simpa [ints] using hst _ _ _ hJ hb⟩
    · obtain ⟨t, q, hq⟩ := odd_part x (by omega)
      have ht : t < 64 := odd_lt (n := 64) (q := q) (by rw [← hq]; exact hx)
      obtain ⟨hget, hdrop'⟩ := mem64_drop hdrop hq ht
      refine T.seq <| T.seq <| T.region <| SL.mv rfl <| SL.v (op_neqT rfl rfl (by omega)) ?_
      refine SL.nil <| T.condT rfl <| T.skip <| T.seq <| T.block <| T.seq <| T.region <| SL.mv rfl <| SL.mv rfl <| SL.v (op_mulN (p := 64) rfl rfl (by omega)) ?_
      refine SL.mv rfl <| SL.w (op_callF en86 (vs := [_]) rfl (tz_spec hT t q x hq hx)) ?_
      rintro _ _ X1 ⟨rfl, hX1, rfl, rfl⟩
      refine SL.v (op_addN rfl rfl (by omega)) ?_
      refine (SL.yield (x := .int .i64 ((0 + t : Nat) : Int)) (J := J i) (J' := J (i + 1)) rfl rfl rfl rfl (fun W hb => hst i _ _ hJ hb) (fun A hA => hY i _ A hA (by simp [ints, hget])) (fun B hB => hP _ B hB) ?_)
      intro w2 hJ2 hw2
      refine SL.v (op_not rfl) <| SL.nil <| T.condF rfl <| T.skip <| T.blk <| T.region <| SL.mv rfl <| SL.mv rfl <| SL.v (op_subU (q := 1) rfl rfl (by omega) (by omega)) ?_
      refine SL.v (op_and rfl rfl (by first | omega | assumption | decide | exact Nat.lt_of_le_of_lt (Nat.shiftRight_le ..) (by first | omega | assumption) | exact Nat.lt_of_le_of_lt Nat.and_le_left (by first | omega | assumption) | exact Nat.lt_of_le_of_lt Nat.and_le_right (by first | omega | decide)) (by first | omega | assumption | decide | exact Nat.lt_of_le_of_lt (Nat.shiftRight_le ..) (by first | omega | assumption) | exact Nat.lt_of_le_of_lt Nat.and_le_left (by first | omega | assumption) | exact Nat.lt_of_le_of_lt Nat.and_le_right (by first | omega | decide))) ?_
      rw [show x &&& (x - 1) = 2 ^ t * (2 * q) by rw [hq]; exact drop_low t q]
      refine SL.as rfl <| SL.nil ?_
      exact T.backB (2 ^ t * (2 * q)) (by rw [hq]; exact Nat.mul_lt_mul_of_pos_left (by omega) (Nat.pow_pos (by omega))) ⟨i + 1, _, rfl, by rw [hq] at hx; exact Nat.lt_of_le_of_lt (Nat.mul_le_mul_left _ (by omega)) hx, by have := (List.getElem?_eq_some_iff.1 hget).1; omega, hdrop', hJ2, rfl⟩ (by repeat (first | exact Sub.nil | refine Sub.cons rfl ?_))

theorem all_spec {X : PMap} {v : Value} : Spec Tryz.prog 60 [v] X fun u X' => ∃ B, u = .func (.func 85) #[] #[.pointer (some ⟨B, 0, none⟩)] ∧ Blk X' B (vcells v) := by
  refine Spec.enter Tryz.func60 rfl Tryz.ntmps60 rfl ?_
  intro w0 hw0
  refine T.seq <| T.region <| SL.w (op_box rfl) ?_
  rintro _ _ _ ⟨B1, rfl, rfl, rfl⟩
  refine SL.as rfl <| SL.nil <| T.seq <| T.region <| SL.v (op_makeFunc (vs := []) (us := [_]) rfl rfl) <| SL.as rfl <| SL.nil <| T.pub B1 (by repeat constructor) ?_
  intro X1 hX1 hB1 _
  refine T.ret1 rfl (ResIs.tmp rfl) ?_
  exact ⟨B1, rfl, hB1⟩

end Go.Proofs.YtmfiencoefbjfaaGreatDoor
namespace Go.Proofs.YtmfiencoefbjfaaGreatDoor
open Go.RowKit
theorem bit_dec (n i : Nat) : decide ((((n >>> i) % 2 : Nat) : Int) = 1) = n.testBit i := by
  rw [Nat.testBit_eq_decide_div_mod_eq, Nat.shiftRight_eq_div_pow]
  congr 1
  apply propext
  omega
theorem maskOf_testBit (l : List Nat) (j : Nat) : (maskOf l).testBit j = decide (j ∈ l) := by
  have key : ∀ (l : List Nat) (m : Nat), (l.foldl (fun m i => m ||| 2 ^ i) m).testBit j = (m.testBit j || decide (j ∈ l)) := by
    intro l
    induction l with
    | nil => intro m; simp
    | cons i l ih =>
      intro m
      rw [List.foldl_cons, ih, Nat.testBit_or, Nat.testBit_two_pow]
      by_cases e : i = j
      · subst e; simp
      · have e' : ¬ j = i := fun h => e h.symm
        simp [e, e']
  rw [maskOf, key]
  simp
theorem SliceR.form {X : PMap} {v : Value} {len : Nat} {cs : List Value} (h : SliceR X v len cs) : ∃ A cp, v = .slice A len cp := by
  rcases h with ⟨h0, _, A, c, rfl⟩ | ⟨_, b, c, rfl, _⟩
  · exact ⟨A, c, by rw [h0]⟩
  · exact ⟨_, c, rfl⟩
theorem SliceR.blk {X : PMap} {A : Option Addr} {cp len : Nat} {cs : List Value} (h : SliceR X (.slice A len cp) len cs) (h0 : 0 < len) : ∃ b, A = some ⟨b, 0, none⟩ ∧ Blk X b cs := by
  rcases h with ⟨h0, _⟩ | ⟨_, b, c, he, hb⟩
  · omega
  · simp only [Value.slice.injEq] at he
    exact ⟨b, he.1, hb⟩
end Go.Proofs.YtmfiencoefbjfaaGreatDoor
namespace Go.Proofs.YtmfiencoefbjfaaGreatDoor
section
set_option maxRecDepth 100000
theorem bs3 : ∃ i z, Tryz.prog.info? 3 = some i ∧ i.size = 1 ∧ i.zero = some z ∧ z.cells = ([.int .i64 0] : List Value).toArray := bs_of (by kernel_rfl)
theorem en11 : Enters Tryz.prog 11 := enters_mk Tryz.func11 (by kernel_rfl) rfl
theorem en17 : Enters Tryz.prog 17 := enters_mk Tryz.func17 (by kernel_rfl) rfl
theorem en22 : Enters Tryz.prog 22 := enters_mk Tryz.func22 (by kernel_rfl) rfl
theorem en34 : Enters Tryz.prog 34 := enters_mk Tryz.func34 (by kernel_rfl) rfl
theorem en62 : Enters Tryz.prog 62 := enters_mk Tryz.func62 (by kernel_rfl) rfl
theorem fa98_0 : FAdr Tryz.prog 98 0 0 := fadr_mk Tryz.underlying98 rfl rfl (by kernel_rfl)
theorem fa98_1 : FAdr Tryz.prog 98 1 1 := fadr_mk Tryz.underlying98 rfl rfl (by kernel_rfl)
theorem sl42 : SlT Tryz.prog 42 3 1 8 := ⟨Tryz.underlying42, sl_of (by kernel_rfl) (by decide)⟩
theorem ty62 : Ty Tryz.prog 62 false 1 := ⟨⟨_, Tryz.underlying62, rfl⟩, by kernel_rfl⟩
end
open Go.RowKit
/-- Cells that hold the sets ms, one after the other. -/
def SetsR (X : PMap) (cs : List Value) (ms : List Nat) : Prop := cs.length = ms.length ∧ ∀ (i m : Nat), ms[i]? = some m → ∃ c : Value, cs[i]? = some c ∧ SetR X (.agg #[c]) m
theorem SetsR.mono {X X' : PMap} {cs : List Value} {ms : List Nat} (h : SetsR X cs ms) (hX : X.le X') : SetsR X' cs ms := ⟨h.1, fun i m hm => let ⟨c, h1, h2⟩ := h.2 i m hm; ⟨c, h1, h2.mono hX⟩⟩
/-- v points to the matrix with c columns and the rows ms. -/
def MatR (X : PMap) (v : Value) (c : Nat) (ms : List Nat) : Prop :=
  ∃ b A cap cs, v = .pointer (some ⟨b, 0, none⟩) ∧ Blk X b [.int .i64 (c : Int), .slice A ms.length cap] ∧ SetsR X cs ms ∧ (0 < ms.length → ∃ br, A = some ⟨br, 0, none⟩ ∧ Blk X br cs) ∧ ms.length < 64 ∧ c < 64
theorem MatR.mono {X X' : PMap} {v : Value} {c : Nat} {ms : List Nat} (h : MatR X v c ms) (hX : X.le X') : MatR X' v c ms := by
  obtain ⟨b, A, cap, cs, h1, h2, h3, h4, h5⟩ := h
  exact ⟨b, A, cap, cs, h1, h2.mono hX, h3.mono hX, fun h => let ⟨br, g1, g2⟩ := h4 h; ⟨br, g1, g2.mono hX⟩, h5⟩

theorem rows_spec {X : PMap} {v : Value} {c : Nat} {ms : List Nat} (h : MatR X v c ms) : Spec Tryz.prog 11 [v] X fun u _ => u = .int .i64 (ms.length : Int) := by
  obtain ⟨b, A, cap, cs, rfl, hB, hS, hA, hr, hc⟩ := h
  refine Spec.enter Tryz.func11 rfl Tryz.ntmps11 rfl ?_
  intro w0 hw0
  refine T.seq <| T.region <| SL.v (op_assign (v := .int .i64 ((0 : Nat) : Int)) rfl) <| SL.nil <| T.seq <| T.seq <| T.region <| SL.mv rfl <| SL.v (op_eqlNil Tryz.underlying26 rfl rfl) <| SL.nil <| T.condF rfl <| T.skip <| T.seq <| T.region <| SL.mv rfl ?_
  refine SL.v (op_nil rfl) <| SL.v (op_fieldAddr fa98_1 rfl) <| SL.v (op_loadX ty62 rfl (by assumption) rfl) ?_
  refine SL.v (op_lenS Tryz.underlying62 rfl) <| SL.as rfl <| SL.nil <| T.ret1 rfl (ResIs.tmp rfl) ?_
  rfl
theorem columns_spec {X : PMap} {v : Value} {c : Nat} {ms : List Nat} (h : MatR X v c ms) : Spec Tryz.prog 22 [v] X fun u _ => u = .int .i64 (c : Int) := by
  obtain ⟨b, A, cap, cs, rfl, hB, hS, hA, hr, hc⟩ := h
  refine Spec.enter Tryz.func22 rfl Tryz.ntmps22 rfl ?_
  intro w0 hw0
  refine T.seq <| T.region <| SL.v (op_assign (v := .int .i64 ((0 : Nat) : Int)) rfl) <| SL.nil <| T.seq <| T.seq <| T.region <| SL.mv rfl <| SL.v (op_eqlNil Tryz.underlying26 rfl rfl) <| SL.nil <| T.condF rfl <| T.skip <| T.seq <| T.region <| SL.mv rfl ?_
  refine SL.v (op_nil rfl) <| SL.v (op_fieldAddr fa98_0 rfl) <| SL.v (op_loadX ty3 rfl (by assumption) rfl) ?_
  refine SL.as rfl <| SL.nil <| T.ret1 rfl (ResIs.tmp rfl) ?_
  rfl
/-- Is there such an element? -/
def insideB (c r : Nat) (i j : Int) : Bool := decide (0 ≤ i ∧ i < r ∧ 0 ≤ j ∧ j < c)
theorem inside_spec {X : PMap} {v : Value} {c : Nat} {ms : List Nat} (h : MatR X v c ms) (i j : Int) : Spec Tryz.prog 62 [v, .int .i64 i, .int .i64 j] X fun u _ => u = .bool (insideB c ms.length i j) := by
  by_cases h1 : i < 0
  · refine Spec.enter Tryz.func62 rfl Tryz.ntmps62 rfl ?_
    intro w0 hw0
    refine T.seq <| T.region <| SL.as rfl <| SL.nil <| T.seq <| T.region <| SL.mv rfl <| SL.v (op_geqF rfl rfl (by omega)) ?_
    refine SL.mv rfl <| SL.skip rfl rfl ?_
    refine SL.skip rfl rfl ?_
    refine SL.skip rfl rfl ?_
    refine SL.skip rfl rfl ?_
    refine SL.v (op_pickF rfl rfl) <| SL.mv rfl <| SL.skip rfl rfl ?_
    refine SL.skip rfl rfl ?_
    refine SL.v (op_pickF rfl rfl) <| SL.mv rfl <| SL.skip rfl rfl ?_
    refine SL.skip rfl rfl ?_
    refine SL.skip rfl rfl ?_
    refine SL.skip rfl rfl ?_
    refine SL.v (op_pickF rfl rfl) <| SL.as rfl <| SL.nil <| T.ret1 rfl (ResIs.tmp rfl) ?_
    simp [insideB]; omega
  · by_cases h2 : (ms.length : Int) ≤ i
    · refine Spec.enter Tryz.func62 rfl Tryz.ntmps62 rfl ?_
      intro w0 hw0
      refine T.seq <| T.region <| SL.as rfl <| SL.nil <| T.seq <| T.region <| SL.mv rfl <| SL.v (op_geqT rfl rfl (by omega)) ?_
      refine SL.mv rfl <| SL.mv rfl <| SL.mv rfl <| SL.w (op_callF en11 (vs := [_]) rfl (rows_spec h)) ?_
      rintro _ _ X1 ⟨rfl, hX1, rfl⟩
      refine SL.v (op_lssF rfl rfl (by omega)) ?_
      refine SL.v (op_pickT rfl rfl) <| SL.mv rfl <| SL.skip rfl rfl ?_
      refine SL.skip rfl rfl ?_
      refine SL.v (op_pickF rfl rfl) <| SL.mv rfl <| SL.skip rfl rfl ?_
      refine SL.skip rfl rfl ?_
      refine SL.skip rfl rfl ?_
      refine SL.skip rfl rfl ?_
      refine SL.v (op_pickF rfl rfl) <| SL.as rfl <| SL.nil <| T.ret1 rfl (ResIs.tmp rfl) ?_
      simp [insideB]; omega
    · by_cases h3 : j < 0
      · refine Spec.enter Tryz.func62 rfl Tryz.ntmps62 rfl ?_
        intro w0 hw0
        refine T.seq <| T.region <| SL.as rfl <| SL.nil <| T.seq <| T.region <| SL.mv rfl <| SL.v (op_geqT rfl rfl (by omega)) ?_
        refine SL.mv rfl <| SL.mv rfl <| SL.mv rfl <| SL.w (op_callF en11 (vs := [_]) rfl (rows_spec h)) ?_
        rintro _ _ X1 ⟨rfl, hX1, rfl⟩
        refine SL.v (op_lssT rfl rfl (by omega)) ?_
        refine SL.v (op_pickT rfl rfl) <| SL.mv rfl <| SL.mv rfl <| SL.v (op_geqF rfl rfl (by omega)) ?_
        refine SL.v (op_pickT rfl rfl) <| SL.mv rfl <| SL.skip rfl rfl ?_
        refine SL.skip rfl rfl ?_
        refine SL.skip rfl rfl ?_
        refine SL.skip rfl rfl ?_
        refine SL.v (op_pickF rfl rfl) <| SL.as rfl <| SL.nil <| T.ret1 rfl (ResIs.tmp rfl) ?_
        simp [insideB]; omega
      · by_cases h4 : (c : Int) ≤ j
        · refine Spec.enter Tryz.func62 rfl Tryz.ntmps62 rfl ?_
          intro w0 hw0
          refine T.seq <| T.region <| SL.as rfl <| SL.nil <| T.seq <| T.region <| SL.mv rfl <| SL.v (op_geqT rfl rfl (by omega)) ?_
          refine SL.mv rfl <| SL.mv rfl <| SL.mv rfl <| SL.w (op_callF en11 (vs := [_]) rfl (rows_spec h)) ?_
          rintro _ _ X1 ⟨rfl, hX1, rfl⟩
          refine SL.v (op_lssT rfl rfl (by omega)) ?_
          refine SL.v (op_pickT rfl rfl) <| SL.mv rfl <| SL.mv rfl <| SL.v (op_geqT rfl rfl (by omega)) ?_
          refine SL.v (op_pickT rfl rfl) <| SL.mv rfl <| SL.mv rfl <| SL.mv rfl <| SL.w (op_callF en22 (vs := [_]) rfl (columns_spec (h.mono hX1))) ?_
          rintro _ _ X2 ⟨rfl, hX2, rfl⟩
          refine SL.v (op_lssF rfl rfl (by omega)) ?_
          refine SL.v (op_pickT rfl rfl) <| SL.as rfl <| SL.nil <| T.ret1 rfl (ResIs.tmp rfl) ?_
          simp [insideB]; omega
        · refine Spec.enter Tryz.func62 rfl Tryz.ntmps62 rfl ?_
          intro w0 hw0
          refine T.seq <| T.region <| SL.as rfl <| SL.nil <| T.seq <| T.region <| SL.mv rfl <| SL.v (op_geqT rfl rfl (by omega)) ?_
          refine SL.mv rfl <| SL.mv rfl <| SL.mv rfl <| SL.w (op_callF en11 (vs := [_]) rfl (rows_spec h)) ?_
          rintro _ _ X1 ⟨rfl, hX1, rfl⟩
          refine SL.v (op_lssT rfl rfl (by omega)) ?_
          refine SL.v (op_pickT rfl rfl) <| SL.mv rfl <| SL.mv rfl <| SL.v (op_geqT rfl rfl (by omega)) ?_
          refine SL.v (op_pickT rfl rfl) <| SL.mv rfl <| SL.mv rfl <| SL.mv rfl <| SL.w (op_callF en22 (vs := [_]) rfl (columns_spec (h.mono hX1))) ?_
          rintro _ _ X2 ⟨rfl, hX2, rfl⟩
          refine SL.v (op_lssT rfl rfl (by omega)) ?_
          refine SL.v (op_pickT rfl rfl) <| SL.as rfl <| SL.nil <| T.ret1 rfl (ResIs.tmp rfl) ?_
          simp [insideB]; omega
/-- The element. -/
def elemB (c : Nat) (ms : List Nat) (i j : Int) : Bool := insideB c ms.length i j && (ms.getD i.toNat 0).testBit j.toNat
theorem mhas_spec {X : PMap} {v : Value} {c : Nat} {ms : List Nat} (h : MatR X v c ms) (i j : Int) : Spec Tryz.prog 34 [v, .int .i64 i, .int .i64 j] X fun u _ => u = .bool (elemB c ms i j) := by
  cases hin : insideB c ms.length i j with
  | false =>
    refine Spec.enter Tryz.func34 rfl Tryz.ntmps34 rfl ?_
    intro w0 hw0
    refine T.seq <| T.region <| SL.as rfl <| SL.nil <| T.seq <| T.region <| SL.mv rfl <| SL.mv rfl <| SL.mv rfl <| SL.w (op_callF en62 (vs := [_, _, _]) rfl (inside_spec h i j)) ?_
    rintro _ _ X1 ⟨rfl, hX1, rfl⟩
    rw [hin]
    refine SL.mv rfl <| SL.skip rfl rfl ?_
    refine SL.skip rfl rfl ?_
    refine SL.skip rfl rfl ?_
    refine SL.skip rfl rfl ?_
    refine SL.skip rfl rfl ?_
    refine SL.skip rfl rfl ?_
    refine SL.skip rfl rfl ?_
    refine SL.skip rfl rfl ?_
    refine SL.skip rfl rfl ?_
    refine SL.v (op_pickF rfl rfl) <| SL.as rfl <| SL.nil <| T.ret1 rfl (ResIs.tmp rfl) ?_
    simp [elemB, hin]
  | true =>
    have hin' := hin
    simp only [insideB, decide_eq_true_eq] at hin'
    obtain ⟨h1, h2, h3, h4⟩ := hin'
    obtain ⟨a, rfl⟩ := Int.eq_ofNat_of_zero_le h1
    obtain ⟨k, rfl⟩ := Int.eq_ofNat_of_zero_le h3
    have ha : a < ms.length := by omega
    have hk : k < c := by omega
    obtain ⟨b, A, cap, cs, rfl, hB, hS, hA, hr, hc⟩ := h
    obtain ⟨br, rfl, hBr⟩ := hA (by omega)
    obtain ⟨cell, hcell, hset⟩ := hS.2 a ms[a] (by simp [ha])
    have h' : MatR X (.pointer (some ⟨b, 0, none⟩)) c ms := ⟨b, _, cap, cs, rfl, hB, hS, fun _ => ⟨br, rfl, hBr⟩, hr, hc⟩
    refine Spec.enter Tryz.func34 rfl Tryz.ntmps34 rfl ?_
    intro w0 hw0
    refine T.seq <| T.region <| SL.as rfl <| SL.nil <| T.seq <| T.region <| SL.mv rfl <| SL.mv rfl <| SL.mv rfl <| SL.w (op_callF en62 (vs := [_, _, _]) rfl (inside_spec h' (a : Int) (k : Int))) ?_
    rintro _ _ X1 ⟨rfl, hX1, rfl⟩
    rw [hin]
    have hB1 := hB.mono hX1
    have hBr1 := hBr.mono hX1
    refine SL.mv rfl <| SL.mv rfl <| SL.v (op_nil rfl) <| SL.v (op_fieldAddr fa98_1 rfl) <| SL.v (op_loadX ty62 rfl (by assumption) rfl) ?_
    refine SL.mv rfl <| SL.v (op_indexN Tryz.underlying62 ty65 rfl rfl (by omega)) ?_
    refine SL.v (op_loadX ty65 rfl hBr1 (creadR1 hcell)) <| SL.mv rfl <| SL.w (op_callF en63 (vs := [_, _]) rfl (has_spec (hset.mono hX1) (k : Int))) ?_
    rintro _ _ X2 ⟨rfl, hX2, rfl⟩
    refine SL.v (op_pickT rfl rfl) <| SL.as rfl <| SL.nil <| T.ret1 rfl (ResIs.tmp rfl) ?_
    simp [elemB, hin, hasB, ha]
/-- The row's set; empty outside. -/
def rowM (ms : List Nat) (i : Int) : Nat := if 0 ≤ i ∧ i < ms.length then ms.getD i.toNat 0 else 0
theorem row_spec {X : PMap} {v : Value} {c : Nat} {ms : List Nat} (h : MatR X v c ms) (i : Int) : Spec Tryz.prog 50 [v, .int .i64 i] X fun u X' => SetR X' u (rowM ms i) := by
  by_cases h1 : i < 0
  · refine Spec.enter Tryz.func50 rfl Tryz.ntmps50 rfl ?_
    intro w0 hw0
    refine T.seq <| T.region <| SL.w (op_alloc z65) ?_
    rintro _ _ _ ⟨B4, rfl, rfl, rfl⟩
    refine SL.nil <| T.seq <| T.seq <| T.region <| SL.mv rfl <| SL.v (op_lssT rfl rfl (by omega)) ?_
    refine SL.mv rfl <| SL.skip rfl rfl ?_
    refine SL.skip rfl rfl ?_
    refine SL.skip rfl rfl ?_
    refine SL.skip rfl rfl ?_
    refine SL.v (op_pickT rfl rfl) <| SL.nil <| T.condT rfl <| T.seq <| T.region <| SL.v (op_build st65 (qs := []) rfl rfl) <| SL.w (op_store ty65 rfl rfl (by repeat constructor) rfl rfl rfl) ?_
    rintro _ _ _ ⟨rfl, rfl⟩
    refine SL.nil <| T.ret1 rfl (ResIs.cell rfl ty65 (by repeat constructor) rfl) ?_
    rw [rowM, if_neg (by omega)]
    exact SetR.zero
  · by_cases h2 : (ms.length : Int) ≤ i
    · refine Spec.enter Tryz.func50 rfl Tryz.ntmps50 rfl ?_
      intro w0 hw0
      refine T.seq <| T.region <| SL.w (op_alloc z65) ?_
      rintro _ _ _ ⟨B4, rfl, rfl, rfl⟩
      refine SL.nil <| T.seq <| T.seq <| T.region <| SL.mv rfl <| SL.v (op_lssF rfl rfl (by omega)) ?_
      refine SL.mv rfl <| SL.mv rfl <| SL.mv rfl <| SL.w (op_callF en11 (vs := [_]) rfl (rows_spec h)) ?_
      rintro _ _ X1 ⟨rfl, hX1, rfl⟩
      refine SL.v (op_geqT rfl rfl (by omega)) ?_
      refine SL.v (op_pickF rfl rfl) <| SL.nil <| T.condT rfl <| T.seq <| T.region <| SL.v (op_build st65 (qs := []) rfl rfl) <| SL.w (op_store ty65 rfl rfl (by repeat constructor) rfl rfl rfl) ?_
      rintro _ _ _ ⟨rfl, rfl⟩
      refine SL.nil <| T.ret1 rfl (ResIs.cell rfl ty65 (by repeat constructor) rfl) ?_
      rw [rowM, if_neg (by omega)]
      exact SetR.zero
    · obtain ⟨a, rfl⟩ := Int.eq_ofNat_of_zero_le (show 0 ≤ i by omega)
      have ha : a < ms.length := by omega
      have hh := h
      obtain ⟨b, A, cap, cs, rfl, hB, hS, hA, hr, hc⟩ := h
      obtain ⟨br, rfl, hBr⟩ := hA (by omega)
      obtain ⟨cell, hcell, hset⟩ := hS.2 a ms[a] (by simp [ha])
      obtain ⟨A1, l1, c1, he⟩ := hset.form
      obtain rfl : cell = .slice A1 l1 c1 := by simpa using he
      refine Spec.enter Tryz.func50 rfl Tryz.ntmps50 rfl ?_
      intro w0 hw0
      refine T.seq <| T.region <| SL.w (op_alloc z65) ?_
      rintro _ _ _ ⟨B4, rfl, rfl, rfl⟩
      refine SL.nil <| T.seq <| T.seq <| T.region <| SL.mv rfl <| SL.v (op_lssF rfl rfl (by omega)) ?_
      refine SL.mv rfl <| SL.mv rfl <| SL.mv rfl <| SL.w (op_callF en11 (vs := [_]) rfl (rows_spec hh)) ?_
      rintro _ _ X1 ⟨rfl, hX1, rfl⟩
      have hB1 := hB.mono hX1
      have hBr1 := hBr.mono hX1
      refine SL.v (op_geqF rfl rfl (by omega)) ?_
      refine SL.v (op_pickF rfl rfl) <| SL.nil <| T.condF rfl <| T.skip <| T.seq <| T.region <| SL.mv rfl <| SL.v (op_nil rfl) <| SL.v (op_fieldAddr fa98_1 rfl) <| SL.v (op_loadX ty62 rfl (by assumption) rfl) ?_
      refine SL.mv rfl <| SL.v (op_indexN Tryz.underlying62 ty65 rfl rfl (by omega)) ?_
      refine SL.v (op_loadX ty65 rfl hBr1 (creadR1 hcell)) <| SL.w (op_store ty65 rfl rfl (by repeat constructor) rfl rfl rfl) ?_
      rintro _ _ _ ⟨rfl, rfl⟩
      refine SL.nil <| T.ret1 rfl (ResIs.cell rfl ty65 (by repeat constructor) rfl) ?_
      have e : rowM ms (a : Int) = ms[a] := by rw [rowM, if_pos (by omega)]; simp [ha]
      rw [e]
      exact hset.mono hX1
/-- The rows with a one in column j. -/
def colL (c : Nat) (ms : List Nat) (j : Int) (n : Nat) : List Nat := (List.range n).filter fun i => elemB c ms (i : Int) j
def colM (c : Nat) (ms : List Nat) (j : Int) : Nat := maskOf (colL c ms j ms.length)
theorem colL_succ (c : Nat) (ms : List Nat) (j : Int) (n : Nat) : colL c ms j (n + 1) = if elemB c ms (n : Int) j then colL c ms j n ++ [n] else colL c ms j n := by
  unfold colL
  rw [List.range_succ, List.filter_append, List.filter_cons]
  split <;> simp
theorem colL_lt {c : Nat} {ms : List Nat} {j : Int} {n i : Nat} (h : i ∈ colL c ms j n) : i < n := by
  simp only [colL, List.mem_filter, List.mem_range] at h
  exact h.1
theorem colL_len (c : Nat) (ms : List Nat) (j : Int) (n : Nat) : (colL c ms j n).length ≤ n := by
  have := List.length_filter_le (fun (i : Nat) => elemB c ms (i : Int) j) (List.range n)
  simpa [colL] using this
theorem column_spec {X : PMap} {v : Value} {c : Nat} {ms : List Nat} (h : MatR X v c ms) (j : Int) : Spec Tryz.prog 59 [v, .int .i64 j] X fun u X' => SetR X' u (colM c ms j) := by
  have hlen : ms.length < 64 := by obtain ⟨_, _, _, _, _, _, _, _, h, _⟩ := h; exact h
  refine Spec.enter Tryz.func59 rfl Tryz.ntmps59 rfl ?_
  intro w0 hw0
  refine T.seq <| T.region <| SL.w (op_alloc z65) ?_
  rintro _ _ _ ⟨B4, rfl, rfl, rfl⟩
  refine SL.nil <| T.seq <| T.region <| SL.as rfl <| SL.nil <| T.seq <| T.seq <| T.region <| SL.mv rfl <| SL.w (op_callF en11 (vs := [_]) rfl (rows_spec h)) ?_
  rintro _ _ X1 ⟨rfl, hX1, rfl⟩
  refine SL.v (op_move (v := .int .i64 ((0 : Nat) : Int)) rfl) <| SL.nil <| T.block <| T.loopW (fun m env own X' => ∃ (k : Nat) (s : Value) (G : Own), m = ms.length - k ∧ k ≤ ms.length ∧ X1.le X' ∧ GrowS 3 1 s (colL c ms j k).length (ints (colL c ms j k)) G ∧ env = [(0, v), (1, .int .i64 j), (4, .pointer (some ⟨B4, 0, none⟩)), (5, s), (8, .int .i64 (ms.length : Int)), (9, .int .i64 (k : Int))] ∧ own = ⟨B4, [.slice none 0 0], 65, 1⟩ :: G) ms.length ⟨0, _, _, by simp, by omega, PMap.le_refl _, GrowS.nil, rfl, rfl⟩ (by repeat (first | exact Sub.nil | refine Sub.cons rfl ?_)) ?_
  rintro m _ _ X2 ⟨k, s, G, rfl, hk, hX2, hG, rfl, rfl⟩
  rcases Nat.lt_or_ge k ms.length with hkl | hkl
  · skip
    refine T.seq <| T.region <| SL.v (op_lssT rfl rfl (by omega)) ?_
    refine SL.nil <| T.seq <| T.condT rfl <| T.skip <| T.seq <| T.block <| T.seq <| T.region <| SL.mv rfl <| SL.as rfl <| SL.nil <| T.seq <| T.region <| SL.mv rfl <| SL.mv rfl ?_
    refine SL.mv rfl <| SL.w (op_callF en34 (vs := [_, _, _]) rfl (mhas_spec ((h.mono hX1).mono hX2) (k : Int) j)) ?_
    rintro _ _ X3 ⟨rfl, hX3, rfl⟩
    have hcl := colL_len c ms j k
    cases hel : elemB c ms (k : Int) j with
    | true =>
      refine SL.nil <| T.condT rfl <| T.region <| SL.mv rfl <| SL.mv rfl <| SL.w (op_buildSlice Tryz.underlying42 bs3 (qs := [(0, _)]) rfl rfl rfl rfl rfl) ?_
      rintro _ _ _ ⟨B18, rfl, rfl, rfl⟩
      refine SL.w (op_appendG (own0 := [_]) sl42 rfl hG rfl rfl rfl (by (have : maxLen = 9223372036854775807 := rfl); omega) (by omega)) ?_
      rintro s' _ _ ⟨G', rfl, rfl, hG'⟩
      refine SL.as rfl <| SL.nil <| T.blk <| T.region <| SL.v (op_addN (q := 1) rfl rfl (by omega)) ?_
      refine SL.mv rfl <| SL.nil ?_
      exact T.backW (ms.length - (k + 1)) (by omega) ⟨k + 1, s', G', rfl, by omega, hX2.trans' hX3, by rw [colL_succ, hel]; simpa [ints, csets, vcells] using hG', rfl, rfl⟩ (by repeat (first | exact Sub.nil | refine Sub.cons rfl ?_))
    | false =>
      refine SL.nil <| T.condF rfl <| T.skip <| T.blk <| T.region <| SL.v (op_addN (q := 1) rfl rfl (by omega)) ?_
      refine SL.mv rfl <| SL.nil ?_
      exact T.backW (ms.length - (k + 1)) (by omega) ⟨k + 1, s, G, rfl, by omega, hX2.trans' hX3, by rw [colL_succ, hel]; exact hG, rfl, rfl⟩ (by repeat (first | exact Sub.nil | refine Sub.cons rfl ?_))
  · have e : k = ms.length := by omega
    subst e
    have hcl := colL_len c ms j ms.length
    refine T.seq <| T.region <| SL.v (op_lssF rfl rfl (by omega)) ?_
    refine SL.nil <| T.seq <| T.condF rfl ?_
    refine T.exit (T.exitCode (T.exitCut (T.exitBlk ?_)))
    refine T.seq <| T.region <| SL.mv rfl <| T.pubGAt (own0 := [_]) hG ?_
    intro X3 hX3 hS3
    refine SL.w (op_callF en17 (vs := [_]) rfl (of_spec hS3 (fun i hi => by have := colL_lt hi; omega) (by omega))) ?_
    rintro _ _ X4 ⟨rfl, hX4, hS⟩
    obtain ⟨A2, l2, c2, rfl⟩ := hS.form
    refine SL.w (op_store ty65 rfl rfl (by repeat constructor) rfl rfl rfl) ?_
    rintro _ _ _ ⟨rfl, rfl⟩
    refine SL.nil <| T.ret1 rfl (ResIs.cell rfl ty65 (by repeat constructor) rfl) ?_
    exact hS
end Go.Proofs.YtmfiencoefbjfaaGreatDoor
namespace Go.Proofs.YtmfiencoefbjfaaGreatDoor
section
set_option maxRecDepth 100000
theorem en45 : Enters Tryz.prog 45 := enters_mk Tryz.func45 (by kernel_rfl) rfl
theorem en50 : Enters Tryz.prog 50 := enters_mk Tryz.func50 (by kernel_rfl) rfl
theorem en59 : Enters Tryz.prog 59 := enters_mk Tryz.func59 (by kernel_rfl) rfl
theorem en60 : Enters Tryz.prog 60 := enters_mk Tryz.func60 (by kernel_rfl) rfl
theorem en75 : Enters Tryz.prog 75 := enters_mk Tryz.func75 (by kernel_rfl) rfl
theorem en85 : Enters Tryz.prog 85 := enters_mk Tryz.func85 (by kernel_rfl) rfl
theorem en88 : Enters Tryz.prog 88 := enters_mk Tryz.func88 (by kernel_rfl) rfl
theorem en93 : Enters Tryz.prog 93 := enters_mk Tryz.func93 (by kernel_rfl) rfl
theorem en94 : Enters Tryz.prog 94 := enters_mk Tryz.func94 (by kernel_rfl) rfl
theorem z119 : Zero Tryz.prog 119 [.slice none 0 0, .slice none 0 0] := ⟨zero_of (by kernel_rfl)⟩
theorem st119 : StT Tryz.prog 119 [(0, 1), (1, 1)] [.slice none 0 0, .slice none 0 0] := ⟨⟨_, Tryz.underlying119, fun _ => by kernel_rfl, z119⟩⟩
theorem ty119 : Ty Tryz.prog 119 true 2 := ⟨⟨_, Tryz.underlying119, rfl⟩, by kernel_rfl⟩
theorem ty26 : Ty Tryz.prog 26 false 1 := ⟨⟨_, Tryz.underlying26, rfl⟩, by kernel_rfl⟩
end
open Go.RowKit
def comF (c : Nat) (ms : List Nat) (l : List Nat) : Nat := l.foldl (fun o i => if i < ms.length then o &&& rowM ms (i : Int) else o) (2 ^ c - 1)
def havF (c : Nat) (ms : List Nat) (l : List Nat) : Nat := l.foldl (fun o j => if j < c then o &&& colM c ms (j : Int) else o) (2 ^ ms.length - 1)
theorem comF_succ (c : Nat) (ms l : List Nat) (i : Nat) (h : i < l.length) : comF c ms (l.take (i + 1)) = if l[i] < ms.length then comF c ms (l.take i) &&& rowM ms (l[i] : Int) else comF c ms (l.take i) := by
  unfold comF
  rw [List.take_succ_eq_append_getElem h, List.foldl_append]
  rfl
theorem havF_succ (c : Nat) (ms l : List Nat) (i : Nat) (h : i < l.length) : havF c ms (l.take (i + 1)) = if l[i] < c then havF c ms (l.take i) &&& colM c ms (l[i] : Int) else havF c ms (l.take i) := by
  unfold havF
  rw [List.take_succ_eq_append_getElem h, List.foldl_append]
  rfl
/-- The columns that all of the rows have. -/
def com (c : Nat) (ms : List Nat) (rows : Nat) : Nat := comF c ms (mem64 rows)
/-- The rows that have all of the columns. -/
def hav (c : Nat) (ms : List Nat) (cols : Nat) : Nat := havF c ms (mem64 cols)
def clo (c : Nat) (ms : List Nat) (cols : Nat) : Nat := com c ms (hav c ms cols)

theorem common_spec {X : PMap} (hT : Tab X) {v s : Value} {c : Nat} {ms : List Nat} {rows : Nat} (h : MatR X v c ms) (hs : SetR X s rows) : Spec Tryz.prog 93 [v, s] X fun u X' => SetR X' u (com c ms rows) := by
  have hc : c < 64 := by obtain ⟨_, _, _, _, _, _, _, _, _, h⟩ := h; exact h
  obtain ⟨bm, rfl⟩ : ∃ b, v = .pointer (some ⟨b, 0, none⟩) := by obtain ⟨b, _, _, _, h, _⟩ := h; exact ⟨b, h⟩
  obtain ⟨A, l, cp, rfl⟩ := hs.form
  refine Spec.enter Tryz.func93 rfl Tryz.ntmps93 rfl ?_
  intro w0 hw0
  refine T.seq <| T.region <| SL.w (op_box rfl) ?_
  rintro _ _ _ ⟨B2, rfl, rfl, rfl⟩
  refine SL.w (op_box rfl) ?_
  rintro _ _ _ ⟨B3, rfl, rfl, rfl⟩
  refine SL.w (op_alloc z65) ?_
  rintro _ _ _ ⟨B4, rfl, rfl, rfl⟩
  refine SL.nil <| T.seq <| T.region <| SL.v (op_load ty26 rfl (by repeat constructor) rfl) ?_
  refine SL.w (op_callF en22 (vs := [_]) rfl (columns_spec h)) ?_
  rintro _ _ X1 ⟨rfl, hX1, rfl⟩
  refine SL.w (op_callF en45 (vs := [_]) rfl (below_spec c hc)) ?_
  rintro _ _ X2 ⟨rfl, hX2, hS2⟩
  obtain ⟨A2, l2, c2, rfl⟩ := hS2.form
  refine SL.w (op_alloc z65) ?_
  rintro _ _ _ ⟨B5, rfl, rfl, rfl⟩
  refine SL.w (op_store ty65 rfl rfl (by repeat constructor) rfl rfl rfl) ?_
  rintro _ _ _ ⟨rfl, rfl⟩
  refine SL.nil <| T.seq <| T.seq <| T.region <| SL.v (op_load ty65 rfl (by repeat constructor) rfl) ?_
  refine SL.w (op_callF en60 (vs := [_]) rfl (all_spec)) ?_
  rintro _ _ X3 ⟨rfl, hX3, B11, rfl, hB11⟩
  have hX03 := (hX1.trans' hX2).trans' hX3
  refine SL.nil <| T.block <| T.rangeFunc (xs := (ints (mem64 rows))) rfl en85 rfl rfl (all_seq (hT.mono hX03) (hs.mono hX03) hB11) (fun i own' X' => X3.le X' ∧ ∃ A' l' c', SetR X' (.agg #[.slice A' l' c']) (comF c ms ((mem64 rows).take i)) ∧ own' = [⟨B5, [.slice A' l' c'], 65, 1⟩, ⟨B4, [.slice none 0 0], 65, 1⟩, ⟨B3, [.slice A l cp], 65, 1⟩, ⟨B2, [.pointer (some ⟨bm, 0, none⟩)], 26, 1⟩]) ⟨PMap.le_refl _, _, _, _, hS2.mono hX3, rfl⟩ (fun i own' X' h => h.1) ?_ ?_
  · rintro i x _ X4 l' r D hx ⟨hX4, A3, l3, c3, hS3, rfl⟩
    obtain ⟨hi, rfl⟩ := ints_some hx
    have hX04 := hX03.trans' hX4
    by_cases hlt : (mem64 rows)[i] < ms.length
    · skip
      refine T.block <| T.seq <| T.region <| SL.mv rfl <| SL.v (op_load ty26 rfl (by repeat constructor) rfl) ?_
      refine SL.w (op_callF en11 (vs := [_]) rfl (rows_spec (h.mono hX04))) ?_
      rintro _ _ X5 ⟨rfl, hX5, rfl⟩
      refine SL.v (op_lssT rfl rfl (by omega)) ?_
      refine SL.nil <| T.condT rfl <| T.draw (by kernel_rfl) 5 [.t 0, .t 1, .t 2, .r 3, .r 4] (by kernel_rfl) ?_
      refine SD.take rfl panicRound (op_load ty65 rfl (by repeat constructor) rfl) rfl rfl ?_
      refine SD.take rfl panicRound (op_load ty26 rfl (by repeat constructor) rfl) rfl rfl ?_
      refine SD.take rfl panicRound (op_move rfl) rfl rfl ?_
      refine SD.run rfl (op_callF en50 (vs := [_, _]) rfl (row_spec ((h.mono hX04).mono hX5) ((mem64 rows)[i] : Nat))) rfl rfl ?_
      rintro _ _ X6 ⟨rfl, hX6, hS6⟩
      refine SD.run rfl (op_callF en88 (vs := [_, _]) rfl (and_spec ((hS3.mono hX5).mono hX6) hS6)) rfl rfl ?_
      rintro _ _ X7 ⟨rfl, hX7, hS7⟩
      refine SD.nil ?_
      show SL _ _ _ _ _ _ _ [_] _ _ _
      obtain ⟨A7, l7, c7, rfl⟩ := hS7.form
      refine SL.w (op_store ty65 rfl rfl (by repeat constructor) rfl rfl rfl) ?_
      rintro _ _ _ ⟨rfl, rfl⟩
      refine SL.nil <| T.blk ?_
      exact T.roundEnd ⟨((hX4.trans' hX5).trans' hX6).trans' hX7, A7, l7, c7, by rw [comF_succ _ _ _ _ hi, if_pos hlt]; exact hS7, rfl⟩
    · refine T.block <| T.seq <| T.region <| SL.mv rfl <| SL.v (op_load ty26 rfl (by repeat constructor) rfl) ?_
      refine SL.w (op_callF en11 (vs := [_]) rfl (rows_spec (h.mono hX04))) ?_
      rintro _ _ X5 ⟨rfl, hX5, rfl⟩
      refine SL.v (op_lssF rfl rfl (by omega)) ?_
      refine SL.nil <| T.condF rfl <| T.skip <| T.blk ?_
      exact T.roundEnd ⟨hX4.trans' hX5, A3, l3, c3, by rw [comF_succ _ _ _ _ hi, if_neg hlt]; exact hS3.mono hX5, rfl⟩
  · rintro D _ X4 ⟨hX4, A3, l3, c3, hS3, rfl⟩
    refine T.blk <| T.seq <| T.region <| SL.v (op_load ty65 rfl (by repeat constructor) rfl) ?_
    refine SL.w (op_store ty65 rfl rfl (by repeat constructor) rfl rfl rfl) ?_
    rintro _ _ _ ⟨rfl, rfl⟩
    refine SL.nil <| T.ret1 rfl (ResIs.cell rfl ty65 (by repeat constructor) rfl) ?_
    rw [show (ints (mem64 rows)).length = (mem64 rows).length by simp [ints], List.take_length] at hS3
    exact hS3

theorem having_spec {X : PMap} (hT : Tab X) {v s : Value} {c : Nat} {ms : List Nat} {cols : Nat} (h : MatR X v c ms) (hs : SetR X s cols) : Spec Tryz.prog 94 [v, s] X fun u X' => SetR X' u (hav c ms cols) := by
  have hr : ms.length < 64 := by obtain ⟨_, _, _, _, _, _, _, _, h, _⟩ := h; exact h
  obtain ⟨bm, rfl⟩ : ∃ b, v = .pointer (some ⟨b, 0, none⟩) := by obtain ⟨b, _, _, _, h, _⟩ := h; exact ⟨b, h⟩
  obtain ⟨A, l, cp, rfl⟩ := hs.form
  refine Spec.enter Tryz.func94 rfl Tryz.ntmps94 rfl ?_
  intro w0 hw0
  refine T.seq <| T.region <| SL.w (op_box rfl) ?_
  rintro _ _ _ ⟨B2, rfl, rfl, rfl⟩
  refine SL.w (op_box rfl) ?_
  rintro _ _ _ ⟨B3, rfl, rfl, rfl⟩
  refine SL.w (op_alloc z65) ?_
  rintro _ _ _ ⟨B4, rfl, rfl, rfl⟩
  refine SL.nil <| T.seq <| T.region <| SL.v (op_load ty26 rfl (by repeat constructor) rfl) ?_
  refine SL.w (op_callF en11 (vs := [_]) rfl (rows_spec h)) ?_
  rintro _ _ X1 ⟨rfl, hX1, rfl⟩
  refine SL.w (op_callF en45 (vs := [_]) rfl (below_spec ms.length hr)) ?_
  rintro _ _ X2 ⟨rfl, hX2, hS2⟩
  obtain ⟨A2, l2, c2, rfl⟩ := hS2.form
  refine SL.w (op_alloc z65) ?_
  rintro _ _ _ ⟨B5, rfl, rfl, rfl⟩
  refine SL.w (op_store ty65 rfl rfl (by repeat constructor) rfl rfl rfl) ?_
  rintro _ _ _ ⟨rfl, rfl⟩
  refine SL.nil <| T.seq <| T.seq <| T.region <| SL.v (op_load ty65 rfl (by repeat constructor) rfl) ?_
  refine SL.w (op_callF en60 (vs := [_]) rfl (all_spec)) ?_
  rintro _ _ X3 ⟨rfl, hX3, B11, rfl, hB11⟩
  have hX03 := (hX1.trans' hX2).trans' hX3
  refine SL.nil <| T.block <| T.rangeFunc (xs := (ints (mem64 cols))) rfl en85 rfl rfl (all_seq (hT.mono hX03) (hs.mono hX03) hB11) (fun i own' X' => X3.le X' ∧ ∃ A' l' c', SetR X' (.agg #[.slice A' l' c']) (havF c ms ((mem64 cols).take i)) ∧ own' = [⟨B5, [.slice A' l' c'], 65, 1⟩, ⟨B4, [.slice none 0 0], 65, 1⟩, ⟨B3, [.slice A l cp], 65, 1⟩, ⟨B2, [.pointer (some ⟨bm, 0, none⟩)], 26, 1⟩]) ⟨PMap.le_refl _, _, _, _, hS2.mono hX3, rfl⟩ (fun i own' X' h => h.1) ?_ ?_
  · rintro i x _ X4 l' r D hx ⟨hX4, A3, l3, c3, hS3, rfl⟩
    obtain ⟨hi, rfl⟩ := ints_some hx
    have hX04 := hX03.trans' hX4
    by_cases hlt : (mem64 cols)[i] < c
    · skip
      refine T.block <| T.seq <| T.region <| SL.mv rfl <| SL.v (op_load ty26 rfl (by repeat constructor) rfl) ?_
      refine SL.w (op_callF en22 (vs := [_]) rfl (columns_spec (h.mono hX04))) ?_
      rintro _ _ X5 ⟨rfl, hX5, rfl⟩
      refine SL.v (op_lssT rfl rfl (by omega)) ?_
      refine SL.nil <| T.condT rfl <| T.draw (by kernel_rfl) 5 [.t 0, .t 1, .t 2, .r 3, .r 4] (by kernel_rfl) ?_
      refine SD.take rfl panicRound (op_load ty65 rfl (by repeat constructor) rfl) rfl rfl ?_
      refine SD.take rfl panicRound (op_load ty26 rfl (by repeat constructor) rfl) rfl rfl ?_
      refine SD.take rfl panicRound (op_move rfl) rfl rfl ?_
      refine SD.run rfl (op_callF en59 (vs := [_, _]) rfl (column_spec ((h.mono hX04).mono hX5) ((mem64 cols)[i] : Nat))) rfl rfl ?_
      rintro _ _ X6 ⟨rfl, hX6, hS6⟩
      refine SD.run rfl (op_callF en88 (vs := [_, _]) rfl (and_spec ((hS3.mono hX5).mono hX6) hS6)) rfl rfl ?_
      rintro _ _ X7 ⟨rfl, hX7, hS7⟩
      refine SD.nil ?_
      show SL _ _ _ _ _ _ _ [_] _ _ _
      obtain ⟨A7, l7, c7, rfl⟩ := hS7.form
      refine SL.w (op_store ty65 rfl rfl (by repeat constructor) rfl rfl rfl) ?_
      rintro _ _ _ ⟨rfl, rfl⟩
      refine SL.nil <| T.blk ?_
      exact T.roundEnd ⟨((hX4.trans' hX5).trans' hX6).trans' hX7, A7, l7, c7, by rw [havF_succ _ _ _ _ hi, if_pos hlt]; exact hS7, rfl⟩
    · refine T.block <| T.seq <| T.region <| SL.mv rfl <| SL.v (op_load ty26 rfl (by repeat constructor) rfl) ?_
      refine SL.w (op_callF en22 (vs := [_]) rfl (columns_spec (h.mono hX04))) ?_
      rintro _ _ X5 ⟨rfl, hX5, rfl⟩
      refine SL.v (op_lssF rfl rfl (by omega)) ?_
      refine SL.nil <| T.condF rfl <| T.skip <| T.blk ?_
      exact T.roundEnd ⟨hX4.trans' hX5, A3, l3, c3, by rw [havF_succ _ _ _ _ hi, if_neg hlt]; exact hS3.mono hX5, rfl⟩
  · rintro D _ X4 ⟨hX4, A3, l3, c3, hS3, rfl⟩
    refine T.blk <| T.seq <| T.region <| SL.v (op_load ty65 rfl (by repeat constructor) rfl) ?_
    refine SL.w (op_store ty65 rfl rfl (by repeat constructor) rfl rfl rfl) ?_
    rintro _ _ _ ⟨rfl, rfl⟩
    refine SL.nil <| T.ret1 rfl (ResIs.cell rfl ty65 (by repeat constructor) rfl) ?_
    rw [show (ints (mem64 cols)).length = (mem64 cols).length by simp [ints], List.take_length] at hS3
    exact hS3

theorem close_spec {X : PMap} (hT : Tab X) {v s : Value} {c : Nat} {ms : List Nat} {cols : Nat} (h : MatR X v c ms) (hs : SetR X s cols) : Spec Tryz.prog 75 [v, s] X fun u X' => SetR X' u (clo c ms cols) := by
  obtain ⟨A, l, cp, rfl⟩ := hs.form
  refine Spec.enter Tryz.func75 rfl Tryz.ntmps75 rfl ?_
  intro w0 hw0
  refine T.seq <| T.region <| SL.w (op_box rfl) ?_
  rintro _ _ _ ⟨B3, rfl, rfl, rfl⟩
  refine SL.w (op_alloc z65) ?_
  rintro _ _ _ ⟨B4, rfl, rfl, rfl⟩
  refine SL.nil <| T.seq <| T.region <| SL.mv rfl <| SL.mv rfl <| SL.v (op_load ty65 rfl (by repeat constructor) rfl) ?_
  refine SL.w (op_callF en94 (vs := [_, _]) rfl (having_spec hT h hs)) ?_
  rintro _ _ X1 ⟨rfl, hX1, hS1⟩
  refine SL.w (op_callF en93 (vs := [_, _]) rfl (common_spec (hT.mono hX1) (h.mono hX1) hS1)) ?_
  rintro _ _ X2 ⟨rfl, hX2, hS2⟩
  obtain ⟨A2, l2, c2, rfl⟩ := hS2.form
  refine SL.w (op_store ty65 rfl rfl (by repeat constructor) rfl rfl rfl) ?_
  rintro _ _ _ ⟨rfl, rfl⟩
  refine SL.nil <| T.ret1 rfl (ResIs.cell rfl ty65 (by repeat constructor) rfl) ?_
  exact hS2
/-- A concept's two sets. -/
def ConR (X : PMap) (v : Value) (rows cols : Nat) : Prop := ∃ x y, v = .agg #[x, y] ∧ SetR X (.agg #[x]) rows ∧ SetR X (.agg #[y]) cols
theorem ConR.mono {X X' : PMap} {v : Value} {r c : Nat} (h : ConR X v r c) (hX : X.le X') : ConR X' v r c := let ⟨x, y, h1, h2, h3⟩ := h; ⟨x, y, h1, h2.mono hX, h3.mono hX⟩
theorem cof_spec {X : PMap} (hT : Tab X) {v s : Value} {c : Nat} {ms : List Nat} {cols : Nat} (h : MatR X v c ms) (hs : SetR X s cols) : Spec Tryz.prog 76 [v, s] X fun u X' => ConR X' u (hav c ms cols) (clo c ms cols) := by
  obtain ⟨A, l, cp, rfl⟩ := hs.form
  refine Spec.enter Tryz.func76 rfl Tryz.ntmps76 rfl ?_
  intro w0 hw0
  refine T.seq <| T.region <| SL.w (op_box rfl) ?_
  rintro _ _ _ ⟨B3, rfl, rfl, rfl⟩
  refine SL.w (op_alloc z119) ?_
  rintro _ _ _ ⟨B4, rfl, rfl, rfl⟩
  refine SL.nil <| T.seq <| T.draw (by kernel_rfl) 7 [.t 0, .t 1, .t 3, .t 4, .r 2, .r 5, .t 6] (by kernel_rfl) ?_
  refine SD.take rfl panicBody (op_move rfl) rfl rfl ?_
  refine SD.take rfl panicBody (op_load ty65 rfl (by repeat constructor) rfl) rfl rfl ?_
  refine SD.take rfl panicBody (op_move rfl) rfl rfl ?_
  refine SD.take rfl panicBody (op_load ty65 rfl (by repeat constructor) rfl) rfl rfl ?_
  refine SD.run rfl (op_callF en94 (vs := [_, _]) rfl (having_spec hT h hs)) rfl rfl ?_
  rintro _ _ X1 ⟨rfl, hX1, hS1⟩
  obtain ⟨A1, l1, c1, rfl⟩ := hS1.form
  refine SD.run rfl (op_callF en75 (vs := [_, _]) rfl (close_spec (hT.mono hX1) (h.mono hX1) (hs.mono hX1))) rfl rfl ?_
  rintro _ _ X2 ⟨rfl, hX2, hS2⟩
  obtain ⟨A2, l2, c2, rfl⟩ := hS2.form
  refine SD.take rfl panicBody (op_build st119 (qs := [(0, _), (1, _)]) rfl rfl) rfl rfl ?_
  refine SD.nil ?_
  show SL _ _ _ _ _ _ _ [_] _ _ _
  refine SL.w (op_store ty119 rfl rfl (by repeat constructor) rfl rfl rfl) ?_
  rintro _ _ _ ⟨rfl, rfl⟩
  refine SL.nil <| T.ret1 rfl (ResIs.cell rfl ty119 (by repeat constructor) rfl) ?_
  exact ⟨_, _, rfl, hS1.mono hX2, hS2⟩
end Go.Proofs.YtmfiencoefbjfaaGreatDoor
namespace Go.Proofs.YtmfiencoefbjfaaGreatDoor
section
set_option maxRecDepth 100000
theorem en61 : Enters Tryz.prog 61 := enters_mk Tryz.func61 (by kernel_rfl) rfl
theorem en65 : Enters Tryz.prog 65 := enters_mk Tryz.func65 (by kernel_rfl) rfl
theorem en66 : Enters Tryz.prog 66 := enters_mk Tryz.func66 (by kernel_rfl) rfl
theorem en95 : Enters Tryz.prog 95 := enters_mk Tryz.func95 (by kernel_rfl) rfl
end
open Go.RowKit
/-- The least member; 0: there is none. -/
def leastM (m : Nat) : Nat := (mem64 m).headD 0
theorem least_any {X : PMap} (hT : Tab X) {v : Value} {m : Nat} (h : SetR X v m) : Spec Tryz.prog 95 [v] X fun u _ => ∃ b, u = .tuple #[.int .i64 (leastM m : Int), .bool b] := by
  by_cases h0 : m = 0
  · subst h0
    exact (least0_spec h).mono fun v X _ hv => ⟨false, by rw [hv]; simp [leastM, mem64_zero]⟩
  · obtain ⟨t, q, hq⟩ := odd_part m (by omega)
    have ht : t < 64 := odd_lt (n := 64) (q := q) (by rw [← hq]; exact h.lt)
    refine (least_spec hT h t q hq).mono fun v X _ hv => ⟨true, ?_⟩
    rw [hv, hq, leastM, mem64_cons t q ht]
    rfl
/-- The closed set that follows a, columns below n still to be looked at. -/
def nextM (c : Nat) (ms : List Nat) : Nat → Nat → Option Nat
  | 0, _ => none
  | j + 1, a => if a.testBit j then nextM c ms j (a &&& (18446744073709551615 - 2 ^ j)) else
      if leastM (clo c ms (a ||| 2 ^ j) &&& (18446744073709551615 - a)) = j then some (clo c ms (a ||| 2 ^ j)) else nextM c ms j a
theorem MatR.lens {X : PMap} {v : Value} {c : Nat} {ms : List Nat} (h : MatR X v c ms) : ms.length < 64 ∧ c < 64 := by obtain ⟨_, _, _, _, _, _, _, _, h⟩ := h; exact h
theorem MatR.ptr {X : PMap} {v : Value} {c : Nat} {ms : List Nat} (h : MatR X v c ms) : ∃ b, v = .pointer (some ⟨b, 0, none⟩) := by obtain ⟨b, _, _, _, h, _⟩ := h; exact ⟨b, h⟩
theorem next_spec {X : PMap} (hT : Tab X) {v s : Value} {c : Nat} {ms : List Nat} {a : Nat} (h : MatR X v c ms) (hs : SetR X s a) : Spec Tryz.prog 77 [v, s] X fun u X' => ∃ w, u = .tuple #[w, .bool (nextM c ms c a).isSome] ∧ SetR X' w ((nextM c ms c a).getD 0) := by
  obtain ⟨hr, hc⟩ := h.lens
  obtain ⟨bm, rfl⟩ := h.ptr
  obtain ⟨A, l, cp, rfl⟩ := hs.form
  generalize hgoal : nextM c ms c a = res
  refine Spec.enter Tryz.func77 rfl Tryz.ntmps77 rfl ?_
  intro w0 hw0
  refine T.seq <| T.region <| SL.w (op_box rfl) ?_
  rintro _ _ _ ⟨B3, rfl, rfl, rfl⟩
  refine SL.w (op_alloc z65) ?_
  rintro _ _ _ ⟨B4, rfl, rfl, rfl⟩
  refine SL.as rfl <| SL.nil <| T.seq <| T.seq <| T.region <| SL.mv rfl <| SL.w (op_callF en22 (vs := [_]) rfl (columns_spec h)) ?_
  rintro _ _ X1 ⟨rfl, hX1, rfl⟩
  refine SL.v (op_sub (q := 1) rfl rfl (by omega) (by omega)) ?_
  refine SL.as rfl <| SL.nil <| T.block <| T.loopW (fun m env own X' => ∃ (n x : Nat) (A' : Option Addr) (l' c' : Nat), m = n ∧ n ≤ c ∧ X1.le X' ∧ nextM c ms n x = res ∧ SetR X' (.agg #[.slice A' l' c']) x ∧ env = [(0, .pointer (some ⟨bm, 0, none⟩)), (3, .pointer (some ⟨B3, 0, none⟩)), (4, .pointer (some ⟨B4, 0, none⟩)), (6, .int .i64 ((n : Int) - 1))] ∧ own = [⟨B4, [.slice none 0 0], 65, 1⟩, ⟨B3, [.slice A' l' c'], 65, 1⟩]) c ⟨c, a, A, l, cp, rfl, by omega, PMap.le_refl _, hgoal, hs.mono hX1, rfl, rfl⟩ (by repeat (first | exact Sub.nil | refine Sub.cons rfl ?_)) ?_
  rintro m _ _ X2 ⟨n, x, A2, l2, c2, rfl, hn, hX2, hnext, hS2, rfl, rfl⟩
  rcases m with _ | k
  · skip
    refine T.seq <| T.seq <| T.region <| SL.mv rfl <| SL.v (op_geqF rfl rfl (by omega)) ?_
    refine SL.nil <| T.condF rfl ?_
    refine T.exit (T.exitCode (T.exitCut (T.exitBlk ?_)))
    refine T.seq <| T.region <| SL.v (op_build st65 (qs := []) rfl rfl) <| SL.w (op_store ty65 rfl rfl (by repeat constructor) rfl rfl rfl) ?_
    rintro _ _ _ ⟨rfl, rfl⟩
    refine SL.as rfl <| SL.nil <| T.ret2 rfl (ResIs.cell rfl ty65 (by repeat constructor) rfl) (ResIs.tmp rfl) ?_
    rw [← hnext]
    exact ⟨_, rfl, SetR.zero⟩
  · rw [show (((k + 1 : Nat) : Int) - 1) = (k : Int) by omega]
    have hT2 := (hT.mono hX1).mono hX2
    have h2 := (h.mono hX1).mono hX2
    refine T.seq <| T.seq <| T.region <| SL.mv rfl <| SL.v (op_geqT rfl rfl (by omega)) ?_
    refine SL.nil <| T.condT rfl <| T.skip <| T.seq <| T.block <| T.seq <| T.seq <| T.region <| SL.v (op_load ty65 rfl (by repeat constructor) rfl) ?_
    refine SL.mv rfl <| SL.w (op_callF en63 (vs := [_, _]) rfl (has_spec hS2 (k : Int))) ?_
    rintro _ _ X3 ⟨rfl, hX3, rfl⟩
    rw [hasB_nat]
    cases hb : x.testBit k with
    | true =>
      refine SL.nil <| T.condT rfl <| T.seq <| T.region <| SL.v (op_load ty65 rfl (by repeat constructor) rfl) ?_
      refine SL.mv rfl <| SL.w (op_callF en66 (vs := [_, _]) rfl (without_spec (hS2.mono hX3) k (by omega))) ?_
      rintro _ _ X4 ⟨rfl, hX4, hS4⟩
      obtain ⟨A4, l4, c4, rfl⟩ := hS4.form
      refine SL.w (op_store ty65 rfl rfl (by repeat constructor) rfl rfl rfl) ?_
      rintro _ _ _ ⟨rfl, rfl⟩
      refine SL.nil ?_
      refine T.exit (T.exitCode (T.exitBlk ?_))
      refine T.region <| SL.mv rfl <| SL.v (op_sub rfl rfl (by omega) (by omega)) ?_
      refine SL.as rfl <| SL.nil ?_
      exact T.backW k (by omega) ⟨k, _, A4, l4, c4, rfl, by omega, (hX2.trans' hX3).trans' hX4, by rw [← hnext, nextM, if_pos hb], hS4, rfl, rfl⟩ (by repeat (first | exact Sub.nil | refine Sub.cons rfl ?_))
    | false =>
      refine SL.nil <| T.condF rfl <| T.skip <| T.seq <| T.region <| SL.mv rfl <| SL.v (op_load ty65 rfl (by repeat constructor) rfl) ?_
      refine SL.mv rfl <| SL.w (op_callF en65 (vs := [_, _]) rfl (with_spec (hS2.mono hX3) k (by omega))) ?_
      rintro _ _ X4 ⟨rfl, hX4, hS4⟩
      refine SL.w (op_callF en75 (vs := [_, _]) rfl (close_spec ((hT2.mono hX3).mono hX4) ((h2.mono hX3).mono hX4) hS4)) ?_
      rintro _ _ X5 ⟨rfl, hX5, hS5⟩
      obtain ⟨A5, l5, c5, rfl⟩ := hS5.form
      refine SL.w (op_alloc z65) ?_
      rintro _ _ _ ⟨B7, rfl, rfl, rfl⟩
      refine SL.w (op_store ty65 rfl rfl (by repeat constructor) rfl rfl rfl) ?_
      rintro _ _ _ ⟨rfl, rfl⟩
      refine SL.nil <| T.seq <| T.region <| SL.v (op_load ty65 rfl (by repeat constructor) rfl) ?_
      refine SL.v (op_load ty65 rfl (by repeat constructor) rfl) ?_
      refine SL.w (op_callF en61 (vs := [_, _]) rfl (minus_spec hS5 (((hS2.mono hX3).mono hX4).mono hX5))) ?_
      rintro _ _ X6 ⟨rfl, hX6, hS6⟩
      refine SL.w (op_callF en95 (vs := [_]) rfl (least_any ((((hT2.mono hX3).mono hX4).mono hX5).mono hX6) hS6)) ?_
      rintro _ _ X7 ⟨rfl, hX7, fl, rfl⟩
      by_cases hk : leastM (clo c ms (x ||| 2 ^ k) &&& (18446744073709551615 - x)) = k
      · skip
        refine SL.mv rfl <| SL.v (op_extract rfl rfl) <| SL.v (op_extract rfl rfl) <| SL.as rfl <| SL.as rfl <| SL.nil <| T.seq <| T.region <| SL.mv rfl <| SL.mv rfl <| SL.v (op_eqlT rfl rfl (by omega)) ?_
        refine SL.nil <| T.condT rfl <| T.seq <| T.region <| SL.v (op_load ty65 rfl (by repeat constructor) rfl) ?_
        refine SL.w (op_store ty65 rfl rfl (by repeat constructor) rfl rfl rfl) ?_
        rintro _ _ _ ⟨rfl, rfl⟩
        refine SL.as rfl <| SL.nil <| T.ret2 rfl (ResIs.cell rfl ty65 (by repeat constructor) rfl) (ResIs.tmp rfl) ?_
        rw [← hnext, nextM, if_neg (by simp [hb]), if_pos hk]
        exact ⟨_, rfl, (hS5.mono hX6).mono hX7⟩
      · refine SL.mv rfl <| SL.v (op_extract rfl rfl) <| SL.v (op_extract rfl rfl) <| SL.as rfl <| SL.as rfl <| SL.nil <| T.seq <| T.region <| SL.mv rfl <| SL.mv rfl <| SL.v (op_eqlF rfl rfl (by omega)) ?_
        refine SL.nil <| T.condF rfl <| T.skip <| T.blk <| T.region <| SL.mv rfl <| SL.v (op_sub rfl rfl (by omega) (by omega)) ?_
        refine SL.as rfl <| SL.nil <| T.drop B7 (by repeat constructor) ?_
        exact T.backW k (by omega) ⟨k, x, A2, l2, c2, rfl, by omega, ((((hX2.trans' hX3).trans' hX4).trans' hX5).trans' hX6).trans' hX7, by rw [← hnext, nextM, if_neg (by simp [hb]), if_neg hk], ((((hS2.mono hX3).mono hX4).mono hX5).mono hX6).mono hX7, rfl, rfl⟩ (by repeat (first | exact Sub.nil | refine Sub.cons rfl ?_))
end Go.Proofs.YtmfiencoefbjfaaGreatDoor
namespace Go.Proofs.YtmfiencoefbjfaaGreatDoor
section
set_option maxRecDepth 100000
theorem bs119 : ∃ i z, Tryz.prog.info? 119 = some i ∧ i.size = 2 ∧ i.zero = some z ∧ z.cells = ([.slice none 0 0, .slice none 0 0] : List Value).toArray := bs_of (by kernel_rfl)
theorem en76 : Enters Tryz.prog 76 := enters_mk Tryz.func76 (by kernel_rfl) rfl
theorem en77 : Enters Tryz.prog 77 := enters_mk Tryz.func77 (by kernel_rfl) rfl
theorem fa145_1 : FAdr Tryz.prog 145 1 1 := fadr_mk Tryz.underlying145 rfl rfl (by kernel_rfl)
theorem sl72 : SlT Tryz.prog 72 119 2 48 := ⟨Tryz.underlying72, sl_of (by kernel_rfl) (by decide)⟩
theorem z145 : Zero Tryz.prog 145 [.pointer none, .slice none 0 0] := ⟨zero_of (by kernel_rfl)⟩
theorem st145 : StT Tryz.prog 145 [(0, 1), (1, 1)] [.pointer none, .slice none 0 0] := ⟨⟨_, Tryz.underlying145, fun _ => by kernel_rfl, z145⟩⟩
theorem ty72 : Ty Tryz.prog 72 false 1 := ⟨⟨_, Tryz.underlying72, rfl⟩, by kernel_rfl⟩
end
open Go.RowKit
/-- The closed sets from a on; none: there are more than the number allows. -/
def gen (c : Nat) (ms : List Nat) : Nat → Nat → Option (List Nat)
  | 0, _ => none
  | k + 1, a => match nextM c ms c a with
    | none => some [a]
    | some b => (gen c ms k b).map (a :: ·)
/-- Cells of concepts, two a concept. -/
def ConsR (X : PMap) (cs : List Value) (l : List (Nat × Nat)) : Prop :=
  cs.length = l.length * 2 ∧ ∀ (i : Nat) (p : Nat × Nat), l[i]? = some p → ∃ x y : Value, cs[i * 2]? = some x ∧ cs[i * 2 + 1]? = some y ∧ SetR X (.agg #[x]) p.1 ∧ SetR X (.agg #[y]) p.2
theorem ConsR.mono {X X' : PMap} {cs : List Value} {l : List (Nat × Nat)} (h : ConsR X cs l) (hX : X.le X') : ConsR X' cs l :=
  ⟨h.1, fun i p hp => let ⟨x, y, h1, h2, h3, h4⟩ := h.2 i p hp; ⟨x, y, h1, h2, h3.mono hX, h4.mono hX⟩⟩
theorem ConsR.nil {X : PMap} : ConsR X [] [] := ⟨rfl, fun i p h => by simp at h⟩
theorem ConsR.snoc {X : PMap} {cs : List Value} {l : List (Nat × Nat)} (h : ConsR X cs l) {x y : Value} {p : Nat × Nat} (hx : SetR X (.agg #[x]) p.1) (hy : SetR X (.agg #[y]) p.2) : ConsR X (cs ++ [x, y]) (l ++ [p]) := by
  refine ⟨by simp [h.1]; omega, fun i q hq => ?_⟩
  rcases Nat.lt_or_ge i l.length with hi | hi
  · rw [List.getElem?_append_left hi] at hq
    obtain ⟨x', y', h1, h2, h3, h4⟩ := h.2 i q hq
    have g1 := (List.getElem?_eq_some_iff.1 h1).1
    have g2 := (List.getElem?_eq_some_iff.1 h2).1
    exact ⟨x', y', by rw [List.getElem?_append_left g1]; exact h1, by rw [List.getElem?_append_left g2]; exact h2, h3, h4⟩
  · have hl := (List.getElem?_eq_some_iff.1 hq).1
    simp at hl
    have e : i = l.length := by omega
    subst e
    have : q = p := by simpa using hq.symm
    subst this
    have e1 : (cs ++ [x, y])[l.length * 2]? = some x := by rw [← h.1, List.getElem?_append_right (Nat.le_refl _)]; simp
    have e2 : (cs ++ [x, y])[l.length * 2 + 1]? = some y := by rw [← h.1, List.getElem?_append_right (by omega)]; simp
    exact ⟨x, y, e1, e2, hx, hy⟩
/-- v points to the lattice of the matrix, with the concepts l. -/
def LatR (X : PMap) (v : Value) (c : Nat) (ms : List Nat) (l : List (Nat × Nat)) : Prop :=
  ∃ b A cap cs pm, v = .pointer (some ⟨b, 0, none⟩) ∧ Blk X b [pm, .slice A l.length cap] ∧ MatR X pm c ms ∧ ConsR X cs l ∧ (0 < l.length → ∃ br, A = some ⟨br, 0, none⟩ ∧ Blk X br cs) ∧ l.length < 2147483648
theorem LatR.mono {X X' : PMap} {v : Value} {c : Nat} {ms : List Nat} {l : List (Nat × Nat)} (h : LatR X v c ms l) (hX : X.le X') : LatR X' v c ms l := by
  obtain ⟨b, A, cap, cs, pm, h1, h2, h3, h4, h5, h6⟩ := h
  exact ⟨b, A, cap, cs, pm, h1, h2.mono hX, h3.mono hX, h4.mono hX, fun h => let ⟨br, g1, g2⟩ := h5 h; ⟨br, g1, g2.mono hX⟩, h6⟩
/-- The concept of a closed set. -/
def conOf (c : Nat) (ms : List Nat) (a : Nat) : Nat × Nat := (hav c ms a, clo c ms a)

/-- What New returns: the lattice, or nil and the error that says that there are too many. -/
def NewR (X : PMap) (u : Value) (c : Nat) (ms : List Nat) : Option (List Nat) → Prop
  | none => u = .tuple #[.pointer none, .int .i64 3]
  | some l => ∃ v, u = .tuple #[v, .int .i64 0] ∧ LatR X v c ms (l.map (conOf c ms))
theorem gen_step {c : Nat} {ms : List Nat} {most a : Nat} {acc : List Nat} {res : Option (List Nat)} {X : PMap} {Aw : Option Addr} {lw cw : Nat} (h : (gen c ms (most - acc.length) a).map (acc ++ ·) = res) (hw : SetR X (.agg #[.slice Aw lw cw]) ((nextM c ms c a).getD 0)) (hlt : acc.length < most) :
    match nextM c ms c a with | some b => (gen c ms (most - (acc ++ [a]).length) b).map ((acc ++ [a]) ++ ·) = res ∧ SetR X (.agg #[.slice Aw lw cw]) b | none => some (acc ++ [a]) = res := by
  obtain ⟨k, hk⟩ : ∃ k, most - acc.length = k + 1 := ⟨most - acc.length - 1, by omega⟩
  rw [hk, gen] at h
  have hk' : most - (acc ++ [a]).length = k := by simp; omega
  rw [hk']
  cases hn : nextM c ms c a with
  | none => rw [hn] at h; simpa using h
  | some b =>
    rw [hn] at h hw
    refine ⟨?_, hw⟩
    rw [← h]
    simp only [Option.map_map]
    congr 1
    funext l
    simp
theorem lnew_spec {X : PMap} (hT : Tab X) {v : Value} {c : Nat} {ms : List Nat} (h : MatR X v c ms) (most : Nat) (h1 : 1 ≤ most) (h2 : most < 2147483648) : Spec Tryz.prog 46 [v, .int .i64 (most : Int)] X fun u X' => NewR X' u c ms (gen c ms most (clo c ms 0)) := by
  obtain ⟨hr, hc⟩ := h.lens
  obtain ⟨bm, rfl⟩ := h.ptr
  generalize hgoal : gen c ms most (clo c ms 0) = res
  refine Spec.enter Tryz.func46 rfl Tryz.ntmps46 rfl ?_
  intro w0 hw0
  refine T.seq <| T.region <| SL.as rfl <| SL.v (op_assign (v := .int .i64 ((0 : Nat) : Int)) rfl) <| SL.nil <| T.seq <| T.seq <| T.region <| SL.mv rfl <| SL.v (op_eqlNil Tryz.underlying26 rfl rfl) <| SL.mv rfl <| SL.mv rfl <| SL.v (op_lssF rfl rfl (by omega)) ?_
  refine SL.v (op_pickF rfl rfl) <| SL.nil <| T.condF rfl <| T.skip <| T.seq <| T.region <| SL.mv rfl <| SL.v (op_build st145 (qs := [(0, _)]) rfl rfl) <| SL.w (op_box rfl) ?_
  rintro _ _ _ ⟨B17, rfl, rfl, rfl⟩
  refine SL.as rfl <| SL.nil <| T.seq <| T.region <| SL.mv rfl <| SL.v (op_build st65 (qs := []) rfl rfl) <| SL.w (op_callF en75 (vs := [_, _]) rfl (close_spec hT h SetR.zero)) ?_
  rintro _ _ X1 ⟨rfl, hX1, hS1⟩
  obtain ⟨A1, l1, c1, rfl⟩ := hS1.form
  refine SL.w (op_alloc z65) ?_
  rintro _ _ _ ⟨B7, rfl, rfl, rfl⟩
  refine SL.w (op_store ty65 rfl rfl (by repeat constructor) rfl rfl rfl) ?_
  rintro _ _ _ ⟨rfl, rfl⟩
  refine SL.as rfl <| SL.nil <| T.seq <| T.block <| T.loopW (fun m env own X' => ∃ (acc : List Nat) (cur : Option Nat) (A' : Option Addr) (l' c' : Nat) (sv : Value) (G : Own) (cs : List Value), m = most - acc.length + (if cur.isSome then 1 else 0) ∧ acc.length ≤ most ∧ X1.le X' ∧ (match cur with | some a => (gen c ms (most - acc.length) a).map (acc ++ ·) = res ∧ SetR X' (.agg #[.slice A' l' c']) a | none => some acc = res) ∧ GrowS 119 2 sv acc.length cs G ∧ ConsR X' cs (acc.map (conOf c ms)) ∧ env = [(0, .pointer (some ⟨bm, 0, none⟩)), (1, .int .i64 (most : Int)), (6, .pointer (some ⟨B17, 0, none⟩)), (7, .pointer (some ⟨B7, 0, none⟩)), (8, .bool cur.isSome)] ∧ own = ⟨B7, [.slice A' l' c'], 65, 1⟩ :: ⟨B17, [.pointer (some ⟨bm, 0, none⟩), sv], 145, 2⟩ :: G) (most + 1) ⟨[], some (clo c ms 0), A1, l1, c1, _, _, [], by simp, by simp, PMap.le_refl _, ⟨by simpa using hgoal, hS1⟩, GrowS.nil, ConsR.nil, rfl, rfl⟩ (by repeat (first | exact Sub.nil | refine Sub.cons rfl ?_)) ?_
  rintro m _ _ X2 ⟨acc, cur, A2, l2, c2, sv, G, cs, rfl, hacc, hX2, hcur, hG, hC, rfl, rfl⟩
  rcases cur with _ | a
  · skip
    refine T.seq <| T.seq <| T.region <| SL.mv rfl <| SL.nil <| T.condF rfl ?_
    refine T.exit (T.exitCode (T.exitCut (T.exitBlk ?_)))
    refine T.seq <| T.region <| SL.mv rfl <| SL.as rfl <| SL.v (op_assign (v := .int .i64 ((0 : Nat) : Int)) rfl) <| SL.nil <| T.pubG (own0 := [_, _]) hG ?_
    intro X3 hX3 hS3
    refine T.pub B17 (by repeat constructor) ?_
    intro X4 hX4 hB4 _
    refine T.ret2 rfl (ResIs.tmp rfl) (ResIs.tmp rfl) ?_
    simp only at hcur
    rw [← hcur]
    obtain ⟨A3, cap3, rfl⟩ := hG.form
    refine ⟨_, rfl, B17, A3, cap3, cs, _, rfl, by simpa using hB4, (((h.mono hX1).mono hX2).mono hX3).mono hX4, (hC.mono hX3).mono hX4, fun h0 => ?_, by simp; omega⟩
    rcases hS3 with ⟨g1, _⟩ | ⟨_, br, cp, he, hb⟩
    · simp at h0; omega
    · simp only [Value.slice.injEq] at he
      exact ⟨br, he.1, hb.mono hX4⟩
  · obtain ⟨hgen, hS2⟩ := hcur
    obtain ⟨As, cps, rfl⟩ := hG.form
    by_cases hlim : acc.length = most
    · skip
      refine T.seq <| T.seq <| T.region <| SL.mv rfl <| SL.nil <| T.condT rfl <| T.skip <| T.block <| T.seq <| T.seq <| T.region <| SL.mv rfl <| SL.v (op_nil rfl) <| SL.v (op_fieldAddr fa145_1 rfl) <| SL.v (op_load ty72 rfl (by repeat constructor) rfl) ?_
      refine SL.v (op_lenS Tryz.underlying72 rfl) <| SL.mv rfl <| SL.v (op_eqlT rfl rfl (by omega)) ?_
      refine SL.nil <| T.condT rfl <| T.seq <| T.region <| SL.as rfl <| SL.v (op_assign (v := .int .i64 ((3 : Nat) : Int)) rfl) <| SL.nil <| T.ret2 rfl (ResIs.tmp rfl) (ResIs.tmp rfl) ?_
      rw [show most - acc.length = 0 by omega] at hgen
      rw [← hgen]
      rfl
    · skip
      refine T.seq <| T.seq <| T.region <| SL.mv rfl <| SL.nil <| T.condT rfl <| T.skip <| T.block <| T.seq <| T.seq <| T.region <| SL.mv rfl <| SL.v (op_nil rfl) <| SL.v (op_fieldAddr fa145_1 rfl) <| SL.v (op_load ty72 rfl (by repeat constructor) rfl) ?_
      refine SL.v (op_lenS Tryz.underlying72 rfl) <| SL.mv rfl <| SL.v (op_eqlF rfl rfl (by omega)) ?_
      refine SL.nil <| T.condF rfl <| T.skip <| T.seq <| T.drawG (own0 := [_, _]) (by kernel_rfl) 10 [.t 0, .t 1, .t 2, .t 3, .t 4, .t 5, .t 6, .r 7, .r 8, .r 9] (by kernel_rfl) ?_
      refine SD.take rfl panicBody (op_move rfl) rfl rfl ?_
      refine SD.take rfl panicBody (op_move rfl) rfl rfl ?_
      refine SD.take rfl panicBody (op_nil rfl) rfl rfl ?_
      refine SD.take rfl panicBody (op_fieldAddr fa145_1 rfl) rfl rfl ?_
      refine SD.take rfl panicBody (op_load ty72 rfl (by repeat constructor) rfl) rfl rfl ?_
      refine SD.take rfl panicBody (op_move rfl) rfl rfl ?_
      refine SD.take rfl panicBody (op_load ty65 rfl (by repeat constructor) rfl) rfl rfl ?_
      refine SD.run rfl (op_callF en76 (vs := [_, _]) rfl (cof_spec ((hT.mono hX1).mono hX2) ((h.mono hX1).mono hX2) hS2)) rfl rfl ?_
      rintro _ _ X3 ⟨rfl, hX3, x, y, rfl, hx, hy⟩
      obtain ⟨Ax, lx, cx, hxe⟩ := hx.form
      obtain ⟨Ay, ly, cy, hye⟩ := hy.form
      obtain rfl : x = .slice Ax lx cx := by simpa using hxe
      obtain rfl : y = .slice Ay ly cy := by simpa using hye
      refine SD.run rfl (op_buildSlice Tryz.underlying72 bs119 (qs := [(0, _)]) rfl rfl rfl rfl rfl) rfl rfl ?_
      rintro _ _ _ ⟨B37, rfl, rfl, rfl⟩
      refine SD.runK rfl (op_appendG (own0 := [_, _]) sl72 rfl hG rfl rfl rfl (by (have : maxLen = 9223372036854775807 := rfl); omega) (by omega)) (by rintro _ _ _ ⟨G', rfl, rfl, _⟩; exact ⟨fun p hp => List.mem_append_left _ hp, PMap.le_trans hX3 (PMap.le_refl _)⟩) rfl rfl ?_
      rintro s' _ _ ⟨G', rfl, rfl, hG'⟩
      refine SD.nil ?_
      show SL _ _ _ _ _ _ _ [_, _, _] _ _ _
      obtain ⟨As', cps', rfl⟩ := hG'.form
      refine SL.v (op_nil rfl) <| SL.v (op_fieldAddr fa145_1 rfl) <| SL.w (op_store ty72 rfl rfl (by repeat constructor) rfl rfl rfl) ?_
      rintro _ _ _ ⟨rfl, rfl⟩
      refine SL.nil <| T.region <| SL.mv rfl <| SL.v (op_load ty65 rfl (by repeat constructor) rfl) ?_
      refine SL.w (op_callF en77 (vs := [_, _]) rfl (next_spec (((hT.mono hX1).mono hX2).mono hX3) (((h.mono hX1).mono hX2).mono hX3) (hS2.mono hX3))) ?_
      rintro _ _ X4 ⟨rfl, hX4, w, rfl, hw⟩
      obtain ⟨Aw, lw, cw, rfl⟩ := hw.form
      refine SL.mv rfl <| SL.v (op_extract rfl rfl) <| SL.v (op_extract rfl rfl) <| SL.w (op_store ty65 rfl rfl (by repeat constructor) rfl rfl rfl) ?_
      rintro _ _ _ ⟨rfl, rfl⟩
      refine SL.as rfl <| SL.nil <| T.blk ?_
      exact T.backW (most - (acc ++ [a]).length + (if (nextM c ms c a).isSome then 1 else 0)) (by simp only [List.length_append, List.length_singleton, Option.isSome_some, if_true]; split <;> omega) ⟨acc ++ [a], nextM c ms c a, Aw, lw, cw, _, G', _, rfl, by simp; omega, (hX2.trans' hX3).trans' hX4, gen_step hgen hw (by omega), by simpa using hG', (by have := (hC.mono hX3).snoc (p := conOf c ms a) hx hy; simpa [csets, vcells] using this.mono hX4), rfl, rfl⟩ (by repeat (first | exact Sub.nil | refine Sub.cons rfl ?_))
end Go.Proofs.YtmfiencoefbjfaaGreatDoor
namespace Go.Proofs.YtmfiencoefbjfaaGreatDoor
section
set_option maxRecDepth 100000
theorem en47 : Enters Tryz.prog 47 := enters_mk Tryz.func47 (by kernel_rfl) rfl
theorem en78 : Enters Tryz.prog 78 := enters_mk Tryz.func78 (by kernel_rfl) rfl
end
open Go.RowKit
theorem creadRk {cs : List Value} {k k' : Nat} {v : Value} (h : cs[k]? = some v) (e : k' = k) : cread true 1 cs k' = some (.agg #[v]) := by
  subst e
  have := creadR1 h
  simpa using this
theorem creadR2 {cs : List Value} {k k' : Nat} {x y : Value} (hx : cs[k]? = some x) (hy : cs[k + 1]? = some y) (e : k' = k) : cread true 2 cs k' = some (.agg #[x, y]) := by
  subst e
  have hl := (List.getElem?_eq_some_iff.1 hy).1
  have hl0 := (List.getElem?_eq_some_iff.1 hx).1
  have h1 : (cs.drop k').take 2 = [x, y] := by
    apply List.ext_getElem?
    intro i
    rcases i with _ | _ | i
    · simp [hx]
    · simp [hy]
    · simp
      omega
  have hb : Nat.ble (k' + 2) cs.length = true := Nat.ble_eq_true_of_le (by omega)
  simp [cread, hb, h1]
/-- A lattice, or nil. -/
def LatN (X : PMap) (v : Value) (c : Nat) (ms : List Nat) (l : List (Nat × Nat)) : Prop := LatR X v c ms l ∨ (v = .pointer none ∧ l = [])
theorem LatN.mono {X X' : PMap} {v : Value} {c : Nat} {ms : List Nat} {l : List (Nat × Nat)} (h : LatN X v c ms l) (hX : X.le X') : LatN X' v c ms l := h.imp (fun h => h.mono hX) id
theorem llen_spec {X : PMap} {v : Value} {c : Nat} {ms : List Nat} {l : List (Nat × Nat)} (h : LatN X v c ms l) : Spec Tryz.prog 47 [v] X fun u _ => u = .int .i64 (l.length : Int) := by
  rcases h with h | ⟨rfl, rfl⟩
  · obtain ⟨b, A, cap, cs, pm, rfl, hB, hM, hC, hA, hl⟩ := h
    refine Spec.enter Tryz.func47 rfl Tryz.ntmps47 rfl ?_
    intro w0 hw0
    refine T.seq <| T.region <| SL.v (op_assign (v := .int .i64 ((0 : Nat) : Int)) rfl) <| SL.nil <| T.seq <| T.seq <| T.region <| SL.mv rfl <| SL.v (op_eqlNil Tryz.underlying115 rfl rfl) <| SL.nil <| T.condF rfl <| T.skip <| T.seq <| T.region <| SL.mv rfl ?_
    refine SL.v (op_nil rfl) <| SL.v (op_fieldAddr fa145_1 rfl) <| SL.v (op_loadX ty72 rfl (by assumption) rfl) ?_
    refine SL.v (op_lenS Tryz.underlying72 rfl) <| SL.as rfl <| SL.nil <| T.ret1 rfl (ResIs.tmp rfl) ?_
    rfl
  · refine Spec.enter Tryz.func47 rfl Tryz.ntmps47 rfl ?_
    intro w0 hw0
    refine T.seq <| T.region <| SL.v (op_assign (v := .int .i64 ((0 : Nat) : Int)) rfl) <| SL.nil <| T.seq <| T.seq <| T.region <| SL.mv rfl <| SL.v (op_eqlNil Tryz.underlying115 rfl rfl) <| SL.nil <| T.condT rfl <| T.seq <| T.region <| SL.v (op_assign (v := .int .i64 ((0 : Nat) : Int)) rfl) <| SL.nil ?_
    refine T.ret1 rfl (ResIs.tmp rfl) ?_
    rfl
def inB (n : Nat) (i : Int) : Bool := decide (0 ≤ i ∧ i < n)
theorem lin_spec {X : PMap} {v : Value} {c : Nat} {ms : List Nat} {l : List (Nat × Nat)} (h : LatN X v c ms l) (i : Int) : Spec Tryz.prog 78 [v, .int .i64 i] X fun u _ => u = .bool (inB l.length i) := by
  by_cases h1 : i < 0
  · refine Spec.enter Tryz.func78 rfl Tryz.ntmps78 rfl ?_
    intro w0 hw0
    refine T.seq <| T.region <| SL.as rfl <| SL.nil <| T.seq <| T.region <| SL.mv rfl <| SL.v (op_geqF rfl rfl (by omega)) ?_
    refine SL.mv rfl <| SL.skip rfl rfl ?_
    refine SL.skip rfl rfl ?_
    refine SL.skip rfl rfl ?_
    refine SL.skip rfl rfl ?_
    refine SL.v (op_pickF rfl rfl) <| SL.as rfl <| SL.nil <| T.ret1 rfl (ResIs.tmp rfl) ?_
    simp [inB]; omega
  · by_cases h2 : (l.length : Int) ≤ i
    · refine Spec.enter Tryz.func78 rfl Tryz.ntmps78 rfl ?_
      intro w0 hw0
      refine T.seq <| T.region <| SL.as rfl <| SL.nil <| T.seq <| T.region <| SL.mv rfl <| SL.v (op_geqT rfl rfl (by omega)) ?_
      refine SL.mv rfl <| SL.mv rfl <| SL.mv rfl <| SL.w (op_callF en47 (vs := [_]) rfl (llen_spec h)) ?_
      rintro _ _ X1 ⟨rfl, hX1, rfl⟩
      refine SL.v (op_lssF rfl rfl (by omega)) ?_
      refine SL.v (op_pickT rfl rfl) <| SL.as rfl <| SL.nil <| T.ret1 rfl (ResIs.tmp rfl) ?_
      simp [inB]; omega
    · refine Spec.enter Tryz.func78 rfl Tryz.ntmps78 rfl ?_
      intro w0 hw0
      refine T.seq <| T.region <| SL.as rfl <| SL.nil <| T.seq <| T.region <| SL.mv rfl <| SL.v (op_geqT rfl rfl (by omega)) ?_
      refine SL.mv rfl <| SL.mv rfl <| SL.mv rfl <| SL.w (op_callF en47 (vs := [_]) rfl (llen_spec h)) ?_
      rintro _ _ X1 ⟨rfl, hX1, rfl⟩
      refine SL.v (op_lssT rfl rfl (by omega)) ?_
      refine SL.v (op_pickT rfl rfl) <| SL.as rfl <| SL.nil <| T.ret1 rfl (ResIs.tmp rfl) ?_
      simp [inB]; omega
/-- Inside, the lattice is none that is nil. -/
theorem LatN.inside {X : PMap} {v : Value} {c : Nat} {ms : List Nat} {l : List (Nat × Nat)} (h : LatN X v c ms l) {i : Int} (hi : inB l.length i = true) :
    ∃ (a : Nat) (ha : a < l.length) (b : Nat) (br cap : Nat) (cs : List Value) (pm x y : Value), i = (a : Int) ∧ v = .pointer (some ⟨b, 0, none⟩) ∧ Blk X b [pm, .slice (some ⟨br, 0, none⟩) l.length cap] ∧ Blk X br cs ∧ MatR X pm c ms ∧ cs[a * 2]? = some x ∧ cs[a * 2 + 1]? = some y ∧ SetR X (.agg #[x]) l[a].1 ∧ SetR X (.agg #[y]) l[a].2 := by
  simp only [inB, decide_eq_true_eq] at hi
  obtain ⟨a, rfl⟩ := Int.eq_ofNat_of_zero_le hi.1
  have ha : a < l.length := by omega
  rcases h with h | ⟨_, rfl⟩
  · obtain ⟨b, A, cap, cs, pm, rfl, hB, hM, hC, hA, hl⟩ := h
    obtain ⟨br, rfl, hBr⟩ := hA (by omega)
    obtain ⟨x, y, h1, h2, h3, h4⟩ := hC.2 a l[a] (by simp [ha])
    exact ⟨a, ha, b, br, cap, cs, pm, x, y, rfl, rfl, hB, hBr, hM, h1, h2, h3, h4⟩
  · simp at ha
def atM (l : List (Nat × Nat)) (i : Int) : Nat × Nat := if inB l.length i then l.getD i.toNat (0, 0) else (0, 0)
theorem lat_spec {X : PMap} {v : Value} {c : Nat} {ms : List Nat} {l : List (Nat × Nat)} (h : LatN X v c ms l) (i : Int) : Spec Tryz.prog 48 [v, .int .i64 i] X fun u X' => ∃ w, u = .tuple #[w, .bool (inB l.length i)] ∧ ConR X' w (atM l i).1 (atM l i).2 := by
  cases hin : inB l.length i with
  | false =>
    refine Spec.enter Tryz.func48 rfl Tryz.ntmps48 rfl ?_
    intro w0 hw0
    refine T.seq <| T.region <| SL.w (op_alloc z119) ?_
    rintro _ _ _ ⟨B4, rfl, rfl, rfl⟩
    refine SL.as rfl <| SL.nil <| T.seq <| T.seq <| T.region <| SL.mv rfl <| SL.mv rfl <| SL.w (op_callF en78 (vs := [_, _]) rfl (lin_spec h i)) ?_
    rintro _ _ X1 ⟨rfl, hX1, rfl⟩
    rw [hin]
    refine SL.v (op_not rfl) <| SL.nil <| T.condT rfl <| T.seq <| T.region <| SL.v (op_build st119 (qs := []) rfl rfl) <| SL.w (op_store ty119 rfl rfl (by repeat constructor) rfl rfl rfl) ?_
    rintro _ _ _ ⟨rfl, rfl⟩
    refine SL.as rfl <| SL.nil <| T.ret2 rfl (ResIs.cell rfl ty119 (by repeat constructor) rfl) (ResIs.tmp rfl) ?_
    refine ⟨_, rfl, _, _, rfl, ?_, ?_⟩ <;> simp only [atM, hin] <;> exact SetR.zero
  | true =>
    obtain ⟨a, ha, b, br, cap, cs, pm, x, y, rfl, rfl, hB, hBr, hM, hx, hy, hsx, hsy⟩ := h.inside hin
    obtain ⟨Ax, lx, cx, hxe⟩ := hsx.form
    obtain ⟨Ay, ly, cy, hye⟩ := hsy.form
    obtain rfl : x = .slice Ax lx cx := by simpa using hxe
    obtain rfl : y = .slice Ay ly cy := by simpa using hye
    refine Spec.enter Tryz.func48 rfl Tryz.ntmps48 rfl ?_
    intro w0 hw0
    refine T.seq <| T.region <| SL.w (op_alloc z119) ?_
    rintro _ _ _ ⟨B4, rfl, rfl, rfl⟩
    refine SL.as rfl <| SL.nil <| T.seq <| T.seq <| T.region <| SL.mv rfl <| SL.mv rfl <| SL.w (op_callF en78 (vs := [_, _]) rfl (lin_spec h (a : Int))) ?_
    rintro _ _ X1 ⟨rfl, hX1, rfl⟩
    rw [hin]
    have hB1 := hB.mono hX1
    have hBr1 := hBr.mono hX1
    refine SL.v (op_not rfl) <| SL.nil <| T.condF rfl <| T.skip <| T.seq <| T.region <| SL.mv rfl <| SL.v (op_nil rfl) <| SL.v (op_fieldAddr fa145_1 rfl) <| SL.v (op_loadX ty72 rfl (by assumption) rfl) ?_
    refine SL.mv rfl <| SL.v (op_indexN Tryz.underlying72 ty119 rfl rfl (by omega)) ?_
    refine SL.v (op_loadX ty119 rfl hBr1 (creadR2 hx hy (by omega))) ?_
    refine SL.w (op_store ty119 rfl rfl (by repeat constructor) rfl rfl rfl) ?_
    rintro _ _ _ ⟨rfl, rfl⟩
    refine SL.as rfl <| SL.nil <| T.ret2 rfl (ResIs.cell rfl ty119 (by repeat constructor) rfl) (ResIs.tmp rfl) ?_
    have e : atM l (a : Int) = l[a] := by simp [atM, hin, ha]
    rw [e]
    exact ⟨_, rfl, _, _, rfl, hsx.mono hX1, hsy.mono hX1⟩
end Go.Proofs.YtmfiencoefbjfaaGreatDoor
namespace Go.Proofs.YtmfiencoefbjfaaGreatDoor
open Go.RowKit
def withinB (a b : Nat) : Bool := decide (a &&& (18446744073709551615 - b) = 0)
theorem LatN.small {X : PMap} {v : Value} {c : Nat} {ms : List Nat} {l : List (Nat × Nat)} (h : LatN X v c ms l) : l.length < 2147483648 := by
  rcases h with h | ⟨_, rfl⟩
  · obtain ⟨_, _, _, _, _, _, _, _, _, _, h⟩ := h; exact h
  · simp
end Go.Proofs.YtmfiencoefbjfaaGreatDoor
namespace Go.Proofs.YtmfiencoefbjfaaGreatDoor
section
set_option maxRecDepth 100000
theorem en43 : Enters Tryz.prog 43 := enters_mk Tryz.func43 (by kernel_rfl) rfl
theorem en44 : Enters Tryz.prog 44 := enters_mk Tryz.func44 (by kernel_rfl) rfl
theorem mr62 : ∃ i z, Tryz.prog.info? 65 = some i ∧ i.size = 1 ∧ i.bytes = 24 ∧ i.zero = some z ∧ z.cells = ([.slice none 0 0] : List Value).toArray := mr_of (by kernel_rfl)
theorem z98 : Zero Tryz.prog 98 [.int .i64 0, .slice none 0 0] := ⟨zero_of (by kernel_rfl)⟩
theorem st98 : StT Tryz.prog 98 [(0, 1), (1, 1)] [.int .i64 0, .slice none 0 0] := ⟨⟨_, Tryz.underlying98, fun _ => by kernel_rfl, z98⟩⟩
end
open Go.RowKit
def zset : Value := .slice none 0 0
theorem mnew_spec {X : PMap} (r c : Nat) (hr : r < 64) (hc : c < 64) : SpecO Tryz.prog 43 [.int .i64 (r : Int), .int .i64 (c : Int)] X fun u own' X' => ∃ b b', u = .tuple #[.pointer (some ⟨b, 0, none⟩), .int .i64 0] ∧ own' = [⟨b, [.int .i64 (c : Int), .slice (some ⟨b', 0, none⟩) r r], 98, 2⟩, ⟨b', List.replicate r zset, 65, r⟩] ∧ X = X' := by
  refine SpecO.enter Tryz.func43 rfl Tryz.ntmps43 rfl ?_
  intro w0 hw0
  refine T.seq <| T.region <| SL.as rfl <| SL.v (op_assign (v := .int .i64 ((0 : Nat) : Int)) rfl) <| SL.nil <| T.seq <| T.seq <| T.region <| SL.mv rfl <| SL.v (op_lssF rfl rfl (by omega)) ?_
  refine SL.mv rfl <| SL.mv rfl <| SL.v (op_gtrF rfl rfl (by omega)) ?_
  refine SL.v (op_pickF rfl rfl) <| SL.mv rfl <| SL.mv rfl <| SL.v (op_lssF rfl rfl (by omega)) ?_
  refine SL.v (op_pickF rfl rfl) <| SL.mv rfl <| SL.mv rfl <| SL.v (op_gtrF rfl rfl (by omega)) ?_
  refine SL.v (op_pickF rfl rfl) <| SL.nil <| T.condF rfl <| T.skip <| T.seq <| T.region <| SL.mv rfl <| SL.mv rfl <| SL.w (op_makeR Tryz.underlying62 mr62 rfl rfl rfl (Nat.le_refl _) (by omega) (by omega)) ?_
  rintro _ _ _ ⟨B22, rfl, rfl, rfl⟩
  refine SL.v (op_build st98 (qs := [(0, _), (1, _)]) rfl rfl) <| SL.w (op_box rfl) ?_
  rintro _ _ _ ⟨B24, rfl, rfl, rfl⟩
  refine SL.as rfl <| SL.v (op_assign (v := .int .i64 ((0 : Nat) : Int)) rfl) <| SL.nil <| T.retO2 rfl (ResIs.tmp rfl) (ResIs.tmp rfl) ?_
  refine ⟨B24, B22, rfl, ?_, rfl⟩
  have e : (List.replicate r [zset]).flatten = List.replicate r zset := by induction r with
    | zero => rfl
    | succ r ih => simp [List.replicate_succ]
  rw [← e]
  simp [vcells, zset, csets]
theorem fill_step {cs : List Value} {k r : Nat} {x : Value} (h : cs[k]? = some x) (hr : cs.length = r) : (cs.take k ++ List.replicate (r - k) zset).set k x = cs.take (k + 1) ++ List.replicate (r - (k + 1)) zset := by
  obtain ⟨hk, hx⟩ := List.getElem?_eq_some_iff.1 h
  rw [List.set_append_right _ _ (by simp; omega), List.take_succ_eq_append_getElem hk]
  have e : r - k = (r - (k + 1)) + 1 := by omega
  rw [e, List.replicate_succ]
  have : k - (cs.take k).length = 0 := by simp; omega
  rw [this, List.set_cons_zero, hx]
  simp
theorem mof_spec {X : PMap} {s : Value} {cs : List Value} {ms : List Nat} (c : Nat) (hs : SliceR X s ms.length cs) (hS : SetsR X cs ms) (hr : ms.length < 64) (hc : c < 64) (hall : ∀ m ∈ ms, withinB m (2 ^ c - 1) = true) : Spec Tryz.prog 19 [.int .i64 (c : Int), s] X fun u X' => ∃ w, u = .tuple #[w, .int .i64 0] ∧ MatR X' w c ms := by
  obtain ⟨A, cp, rfl⟩ : ∃ A cp, s = .slice A ms.length cp := by
    rcases hs with ⟨h0, _, A, c, rfl⟩ | ⟨_, b, c, rfl, _⟩
    · exact ⟨A, c, by rw [h0]⟩
    · exact ⟨_, c, rfl⟩
  refine Spec.enter Tryz.func19 rfl Tryz.ntmps19 rfl ?_
  intro w0 hw0
  refine T.seq <| T.region <| SL.as rfl <| SL.v (op_assign (v := .int .i64 ((0 : Nat) : Int)) rfl) <| SL.nil <| T.seq <| T.region <| SL.mv rfl <| SL.v (op_lenS Tryz.underlying62 rfl) <| SL.mv rfl <| SL.w (op_callO en43 (vs := [_, _]) rfl (mnew_spec ms.length c hr hc)) ?_
  rintro _ _ X1 ⟨_, rfl, hX1, b, b', rfl, rfl, rfl⟩
  refine SL.mv rfl <| SL.v (op_extract rfl rfl) <| SL.v (op_extract rfl rfl) <| SL.as rfl <| SL.as rfl <| SL.nil <| T.seq <| T.seq <| T.region <| SL.mv rfl <| SL.v (op_neqF rfl rfl (by omega)) ?_
  refine SL.nil <| T.condF rfl <| T.skip <| T.seq <| T.seq <| T.region <| SL.mv rfl <| SL.v (op_lenS Tryz.underlying62 rfl) <| SL.v (op_move (v := .int .i64 ((0 : Nat) : Int)) rfl) <| SL.nil <| T.block <| T.loopW (fun m env own X' => ∃ k : Nat, m = ms.length - k ∧ k ≤ ms.length ∧ X.le X' ∧ env = [(0, .int .i64 (c : Int)), (1, .slice A ms.length cp), (6, .pointer (some ⟨b, 0, none⟩)), (20, .slice A ms.length cp), (21, .int .i64 (ms.length : Int)), (22, .int .i64 (k : Int))] ∧ own = [⟨b, [.int .i64 (c : Int), .slice (some ⟨b', 0, none⟩) ms.length ms.length], 98, 2⟩, ⟨b', cs.take k ++ List.replicate (ms.length - k) zset, 65, ms.length⟩]) ms.length ⟨0, by simp, by omega, PMap.le_refl _, rfl, by simp⟩ (by repeat (first | exact Sub.nil | refine Sub.cons rfl ?_)) ?_
  rintro m _ _ X2 ⟨k, rfl, hk, hX2, rfl, rfl⟩
  rcases Nat.lt_or_ge k ms.length with hkl | hkl
  · rcases hs with ⟨h0, _, _⟩ | ⟨_, br, cp', he, hBr⟩
    · omega
    · simp only [Value.slice.injEq] at he
      obtain ⟨rfl, _, rfl⟩ := he
      obtain ⟨cell, hcell, hset⟩ := hS.2 k ms[k] (by simp [hkl])
      obtain ⟨A1, l1, c1, hxe⟩ := hset.form
      obtain rfl : cell = .slice A1 l1 c1 := by simpa using hxe
      have hBr2 := hBr.mono hX2
      have hw := hall ms[k] (List.getElem_mem hkl)
      have hlen : cs.length = ms.length := hS.1
      refine T.seq <| T.region <| SL.v (op_lssT rfl rfl (by omega)) ?_
      refine SL.nil <| T.seq <| T.condT rfl <| T.skip <| T.seq <| T.block <| T.seq <| T.region <| SL.mv rfl <| SL.v (op_indexN Tryz.underlying62 ty65 rfl rfl (by omega)) ?_
      refine SL.v (op_loadX ty65 rfl hBr2 (creadR1 hcell)) <| SL.w (op_alloc z65) ?_
      rintro _ _ _ ⟨B9, rfl, rfl, rfl⟩
      refine SL.as rfl <| SL.w (op_store ty65 rfl rfl (by repeat constructor) rfl rfl rfl) ?_
      rintro _ _ _ ⟨rfl, rfl⟩
      refine SL.nil <| T.seq <| T.seq <| T.draw (by kernel_rfl) 5 [.t 0, .t 1, .r 2, .r 3, .t 4] (by kernel_rfl) ?_
      refine SD.take rfl panicBody (op_load ty65 rfl (by repeat constructor) rfl) rfl rfl ?_
      refine SD.take rfl panicBody (op_move rfl) rfl rfl ?_
      refine SD.run rfl (op_callF en45 (vs := [_]) rfl (below_spec c hc)) rfl rfl ?_
      rintro _ _ X3 ⟨rfl, hX3, hS3⟩
      refine SD.run rfl (op_callF en44 (vs := [_, _]) rfl (within_spec ((hset.mono hX2).mono hX3) hS3)) rfl rfl ?_
      rintro _ _ X4 ⟨rfl, hX4, rfl⟩
      rw [show decide (ms[k] &&& (18446744073709551615 - (2 ^ c - 1)) = 0) = true from hw]
      refine SD.take rfl panicBody (op_not rfl) rfl rfl ?_
      refine SD.nil ?_
      show SL _ _ _ _ _ _ _ [] _ _ _
      refine SL.nil <| T.condF rfl <| T.skip <| T.draw (by kernel_rfl) 7 [.t 0, .t 1, .t 2, .t 3, .t 4, .t 5, .t 6] (by kernel_rfl) ?_
      refine SD.take rfl panicBody (op_move rfl) rfl rfl ?_
      refine SD.take rfl panicBody (op_nil rfl) rfl rfl ?_
      refine SD.take rfl panicBody (op_fieldAddr fa98_1 rfl) rfl rfl ?_
      refine SD.take rfl panicBody (op_load ty62 rfl (by repeat constructor) rfl) rfl rfl ?_
      refine SD.take rfl panicBody (op_move rfl) rfl rfl ?_
      refine SD.take rfl panicBody (op_load ty65 rfl (by repeat constructor) rfl) rfl rfl ?_
      refine SD.take rfl panicBody (op_indexN Tryz.underlying62 ty65 rfl rfl (by omega)) rfl rfl ?_
      refine SD.nil ?_
      show SL _ _ _ _ _ _ _ [_] _ _ _
      refine SL.w (op_store ty65 rfl rfl (by repeat constructor) rfl rfl (Nat.ble_eq_true_of_le (by simp; omega))) ?_
      rintro _ _ _ ⟨rfl, rfl⟩
      rw [show 0 + k * 1 = k by omega]
      refine SL.nil <| T.blk <| T.region <| SL.v (op_addN (q := 1) rfl rfl (by omega)) ?_
      refine SL.mv rfl <| SL.nil <| T.drop B9 (by repeat constructor) ?_
      exact T.backW (ms.length - (k + 1)) (by omega) ⟨k + 1, rfl, by omega, (hX2.trans' hX3).trans' hX4, rfl, by rw [← fill_step hcell hlen]; rfl⟩ (by repeat (first | exact Sub.nil | refine Sub.cons rfl ?_))
  · obtain rfl : k = ms.length := by omega
    refine T.seq <| T.region <| SL.v (op_lssF rfl rfl (by omega)) ?_
    refine SL.nil <| T.seq <| T.condF rfl ?_
    refine T.exit (T.exitCode (T.exitCut (T.exitBlk ?_)))
    refine T.seq <| T.region <| SL.mv rfl <| SL.as rfl <| SL.v (op_assign (v := .int .i64 ((0 : Nat) : Int)) rfl) <| SL.nil <| T.pub b' (by repeat constructor) ?_
    intro X3 hX3 hB3 _
    refine T.pub b (by repeat constructor) ?_
    intro X4 hX4 hB4 _
    refine T.ret2 rfl (ResIs.tmp rfl) (ResIs.tmp rfl) ?_
    have hSx := ((hS.mono hX2).mono hX3).mono hX4
    have hlen : cs.length = ms.length := hS.1
    rw [← hlen, List.take_length, Nat.sub_self, List.replicate_zero, List.append_nil] at hB3
    exact ⟨_, rfl, b, _, _, cs, rfl, hB4, hSx, fun _ => ⟨b', rfl, hB3.mono hX4⟩, hr, hc⟩
end Go.Proofs.YtmfiencoefbjfaaGreatDoor
namespace Go.Proofs.YtmfiencoefbjfaaGreatDoor
open Go.RowKit
def bytesC (bs : List Nat) : List Value := bs.map fun (b : Nat) => .int .u8 (b : Int)
/-- v is a slice of these bytes, wherever it begins. -/
def BytesR (X : PMap) (v : Value) (bs : List Nat) : Prop :=
  (bs = [] ∧ ∃ A c, v = .slice A 0 c) ∨ (0 < bs.length ∧ ∃ b c pre, v = .slice (some ⟨b, pre.length, none⟩) bs.length c ∧ Blk X b (pre ++ bytesC bs))
theorem BytesR.mono {X X' : PMap} {v : Value} {bs : List Nat} (h : BytesR X v bs) (hX : X.le X') : BytesR X' v bs := by
  rcases h with h | ⟨h0, b, c, pre, hv, hb⟩
  · exact .inl h
  · exact .inr ⟨h0, b, c, pre, hv, hb.mono hX⟩
theorem BytesR.form {X : PMap} {v : Value} {bs : List Nat} (h : BytesR X v bs) : ∃ A cp, v = .slice A bs.length cp := by
  rcases h with ⟨rfl, A, c, rfl⟩ | ⟨h0, b, c, pre, rfl, hb⟩
  · exact ⟨_, _, rfl⟩
  · exact ⟨_, _, rfl⟩
theorem BytesR.blk {X : PMap} {A : Option Addr} {cp len : Nat} {bs : List Nat} (h : BytesR X (.slice A len cp) bs) (h0 : 0 < bs.length) : ∃ b pre, A = some ⟨b, pre.length, none⟩ ∧ Blk X b (pre ++ bytesC bs) := by
  rcases h with ⟨rfl, _⟩ | ⟨_, b, c, pre, hv, hb⟩
  · simp at h0
  · simp only [Value.slice.injEq] at hv
    exact ⟨b, pre, hv.1, hb⟩
theorem cread1k' {cs : List Value} {k k' : Nat} {v : Value} (h : cs[k]? = some v) (e : k' = k) : cread false 1 cs k' = some v := by
  subst e
  simpa [cread] using h
end Go.Proofs.YtmfiencoefbjfaaGreatDoor
namespace Go.Proofs.YtmfiencoefbjfaaGreatDoor
open Go.RowKit
def bitB (bs : List Nat) (k : Nat) : Bool := decide (k / 8 < bs.length) && (bs.getD (k / 8) 0).testBit (k % 8)
theorem bit44_spec {X : PMap} {v : Value} {bs : List Nat} (h : BytesR X v bs) (k : Nat) (hk : k < 2147483648) : Spec Tryz.prog 21 [v, .int .i64 (k : Int)] X fun u _ => u = .bool (bitB bs k) := by
  obtain ⟨A, cp, rfl⟩ := h.form
  by_cases hl : k / 8 < bs.length
  · obtain ⟨b, pre, rfl, hB⟩ := h.blk (by omega)
    have hget : (pre ++ bytesC bs)[pre.length + k / 8]? = some (.int .u8 (bs[k / 8] : Int)) := by
      rw [List.getElem?_append_right (by omega)]
      simp [bytesC, hl]
    have h8 : k % 8 < 8 := Nat.mod_lt _ (by omega)
    refine Spec.enter Tryz.func21 rfl Tryz.ntmps21 rfl ?_
    intro w0 hw0
    refine T.seq <| T.region <| SL.as rfl <| SL.nil <| T.seq <| T.region <| SL.mv rfl <| SL.v (op_quoN (q := 8) rfl rfl rfl (by omega) (by decide)) ?_
    refine SL.mv rfl <| SL.v (op_lenS Tryz.underlying22 rfl) <| SL.v (op_lssT rfl rfl (by omega)) ?_
    refine SL.mv rfl <| SL.mv rfl <| SL.mv rfl <| SL.v (op_quoN (q := 8) rfl rfl rfl (by omega) (by decide)) ?_
    refine SL.v (op_indexN Tryz.underlying22 ty5 rfl rfl (by omega)) ?_
    refine SL.v (op_loadX ty5 rfl hB (cread1k' hget (by omega))) ?_
    refine SL.mv rfl <| SL.v (op_remN (q := 8) rfl rfl rfl (by decide)) ?_
    refine SL.v (op_convU64 Tryz.underlying3 Tryz.underlying114 rfl (by omega) (by omega)) ?_
    refine SL.v (op_shrK rfl rfl (by show _ ≤ 8; omega)) ?_
    refine SL.v (op_remN (q := 2) rfl rfl rfl (by decide)) ?_
    refine SL.v (op_eql rfl rfl) ?_
    rw [bit_dec]
    refine SL.v (op_pickT rfl rfl) <| SL.as rfl <| SL.nil <| T.ret1 rfl (ResIs.tmp rfl) ?_
    simp [bitB, hl]
  · refine Spec.enter Tryz.func21 rfl Tryz.ntmps21 rfl ?_
    intro w0 hw0
    refine T.seq <| T.region <| SL.as rfl <| SL.nil <| T.seq <| T.region <| SL.mv rfl <| SL.v (op_quoN (q := 8) rfl rfl rfl (by omega) (by decide)) ?_
    refine SL.mv rfl <| SL.v (op_lenS Tryz.underlying22 rfl) <| SL.v (op_lssF rfl rfl (by omega)) ?_
    refine SL.mv rfl <| SL.skip rfl rfl ?_
    refine SL.skip rfl rfl ?_
    refine SL.skip rfl rfl ?_
    refine SL.skip rfl rfl ?_
    refine SL.skip rfl rfl ?_
    refine SL.skip rfl rfl ?_
    refine SL.skip rfl rfl ?_
    refine SL.skip rfl rfl ?_
    refine SL.skip rfl rfl ?_
    refine SL.skip rfl rfl ?_
    refine SL.skip rfl rfl ?_
    refine SL.v (op_pickF rfl rfl) <| SL.as rfl <| SL.nil <| T.ret1 rfl (ResIs.tmp rfl) ?_
    simp [bitB, hl]
end Go.Proofs.YtmfiencoefbjfaaGreatDoor
namespace Go.Proofs.YtmfiencoefbjfaaGreatDoor
section
set_option maxRecDepth 100000
theorem bs71 : ∃ i z, Tryz.prog.info? 71 = some i ∧ i.size = 1 ∧ i.zero = some z ∧ z.cells = ([.slice none 0 0] : List Value).toArray := bs_of (by kernel_rfl)
theorem fa30_1 : FAdr Tryz.prog 30 1 1 := fadr_mk Tryz.underlying30 rfl rfl (by kernel_rfl)
theorem mk71 : ∃ i, Tryz.prog.info? 4 = some i ∧ i.size = 1 ∧ i.bytes = 1 ∧ i.zero = some (.bool false) := mk_of (by kernel_rfl)
theorem sl28 : SlT Tryz.prog 28 71 1 24 := ⟨Tryz.underlying28, sl_of (by kernel_rfl) (by decide)⟩
theorem z30 : Zero Tryz.prog 30 [.int .i64 0, .slice none 0 0] := ⟨zero_of (by kernel_rfl)⟩
theorem st30 : StT Tryz.prog 30 [(0, 1), (1, 1)] [.int .i64 0, .slice none 0 0] := ⟨⟨_, Tryz.underlying30, fun _ => by kernel_rfl, z30⟩⟩
theorem ty28 : Ty Tryz.prog 28 false 1 := ⟨⟨_, Tryz.underlying28, rfl⟩, by kernel_rfl⟩
theorem ty30 : Ty Tryz.prog 30 true 2 := ⟨⟨_, Tryz.underlying30, rfl⟩, by kernel_rfl⟩
end
open Go.RowKit
def boolsC (c m : Nat) : List Value := (List.range c).map fun j => .bool (m.testBit j)
def rowO (c : Nat) (bs rows : List Nat) : Own := (bs.zip rows).map fun p => ⟨p.1, boolsC c p.2, 4, c⟩
def outC (c : Nat) (bs : List Nat) : List Value := bs.map fun b => .slice (some ⟨b, 0, none⟩) c c
theorem boolsC_zero (c : Nat) : boolsC c 0 = List.replicate c (.bool false) := by simp [boolsC, List.map_const']
theorem rowO_snoc (c : Nat) (bs rows : List Nat) (b m : Nat) (h : bs.length = rows.length) : rowO c (bs ++ [b]) (rows ++ [m]) = rowO c bs rows ++ [⟨b, boolsC c m, 4, c⟩] := by
  simp [rowO, List.zip_append h]
theorem new44_spec {X : PMap} (r c : Nat) (hr : r < 64) (hc : c < 64) : SpecO Tryz.prog 20 [.int .i64 (r : Int), .int .i64 (c : Int)] X fun u own' X' => ∃ s G bs, u = .agg #[.int .i64 (c : Int), s] ∧ bs.length = r ∧ GrowS 71 1 s r (outC c bs) G ∧ own' = rowO c bs (List.replicate r 0) ++ G ∧ X = X' := by
  refine SpecO.enter Tryz.func20 rfl Tryz.ntmps20 rfl ?_
  intro w0 hw0
  refine T.seq <| T.region <| SL.w (op_alloc z30) ?_
  rintro _ _ _ ⟨B4, rfl, rfl, rfl⟩
  refine SL.nil <| T.seq <| T.region <| SL.mv rfl <| SL.v (op_build st30 (qs := [(0, _)]) rfl rfl) <| SL.w (op_alloc z30) ?_
  rintro _ _ _ ⟨B5, rfl, rfl, rfl⟩
  refine SL.w (op_store ty30 rfl rfl (by repeat constructor) rfl rfl rfl) ?_
  rintro _ _ _ ⟨rfl, rfl⟩
  refine SL.nil <| T.seq <| T.seq <| T.region <| SL.v (op_assign (v := .int .i64 ((0 : Nat) : Int)) rfl) <| SL.nil <| T.block <| T.loopW (fun m env own X' => ∃ (bs : List Nat) (s : Value) (G : Own), m = r - bs.length ∧ bs.length ≤ r ∧ X = X' ∧ GrowS 71 1 s bs.length (outC c bs) G ∧ env = [(0, .int .i64 (r : Int)), (1, .int .i64 (c : Int)), (4, .pointer (some ⟨B4, 0, none⟩)), (5, .pointer (some ⟨B5, 0, none⟩)), (6, .int .i64 (bs.length : Int))] ∧ own = ⟨B5, [.int .i64 (c : Int), s], 30, 2⟩ :: ⟨B4, [.int .i64 0, .slice none 0 0], 30, 2⟩ :: (rowO c bs (List.replicate bs.length 0) ++ G)) r ⟨[], _, [], by simp, by simp, rfl, GrowS.nil, rfl, rfl⟩ (by repeat (first | exact Sub.nil | refine Sub.cons rfl ?_)) ?_
  rintro m _ _ _ ⟨bs, s, G, rfl, hb, rfl, hG, rfl, rfl⟩
  obtain ⟨As, cps, rfl⟩ := hG.form
  rcases Nat.lt_or_ge bs.length r with hlt | hge
  · skip
    refine T.seq <| T.seq <| T.region <| SL.mv rfl <| SL.mv rfl <| SL.v (op_lssT rfl rfl (by omega)) ?_
    refine SL.nil <| T.condT rfl <| T.skip <| T.seq <| T.block <| T.draw (by kernel_rfl) 5 [.t 0, .t 1, .t 2, .r 3, .r 4] (by kernel_rfl) ?_
    refine SD.take rfl panicBody (op_fieldAddr fa30_1 rfl) rfl rfl ?_
    refine SD.take rfl panicBody (op_load ty28 rfl (by repeat constructor) rfl) rfl rfl ?_
    refine SD.take rfl panicBody (op_move rfl) rfl rfl ?_
    refine SD.run rfl (op_make Tryz.underlying71 mk71 rfl rfl rfl (Nat.le_refl _) (by omega) (by omega)) rfl rfl ?_
    rintro _ _ _ ⟨B17, rfl, rfl, rfl⟩
    refine SD.run rfl (op_buildSlice Tryz.underlying28 bs71 (qs := [(0, _)]) rfl rfl rfl rfl rfl) rfl rfl ?_
    rintro _ _ _ ⟨B18, rfl, rfl, rfl⟩
    refine SD.nil ?_
    show SL _ _ _ _ _ _ _ [_, _, _] _ _ _
    refine SL.w (op_appendG (own0 := [_, _, _] ++ rowO c bs (List.replicate bs.length 0)) sl28 rfl hG rfl rfl rfl (by (have : maxLen = 9223372036854775807 := rfl); omega) (by omega)) ?_
    rintro s' _ _ ⟨G', rfl, rfl, hG'⟩
    obtain ⟨As', cps', rfl⟩ := hG'.form
    refine SL.v (op_fieldAddr fa30_1 rfl) <| SL.w (op_store ty28 rfl rfl (by repeat constructor) rfl rfl rfl) ?_
    rintro _ _ _ ⟨rfl, rfl⟩
    refine SL.nil <| T.blk <| T.region <| SL.mv rfl <| SL.v (op_addN (q := 1) rfl rfl (by omega)) ?_
    refine SL.as rfl <| SL.nil <| T.perm perm3 ?_
    exact T.backW (r - (bs ++ [B17]).length) (by simp; omega) ⟨bs ++ [B17], _, G', rfl, by simp; omega, rfl, by simpa [outC, csets, vcells] using hG', by rw [List.length_append], by rw [List.length_append, List.length_singleton, List.replicate_succ', rowO_snoc _ _ _ _ _ (by simp), boolsC_zero]; rfl⟩ (by repeat (first | exact Sub.nil | refine Sub.cons rfl ?_))
  · obtain rfl : bs.length = r := by omega
    refine T.seq <| T.seq <| T.region <| SL.mv rfl <| SL.mv rfl <| SL.v (op_lssF rfl rfl (by omega)) ?_
    refine SL.nil <| T.condF rfl ?_
    refine T.exit (T.exitCode (T.exitCut (T.exitBlk ?_)))
    refine T.seq <| T.region <| SL.v (op_load ty30 rfl (by repeat constructor) rfl) ?_
    refine SL.w (op_store ty30 rfl rfl (by repeat constructor) rfl rfl rfl) ?_
    rintro _ _ _ ⟨rfl, rfl⟩
    refine SL.nil <| T.retOS1 (own' := rowO c bs (List.replicate bs.length 0) ++ G) rfl (ResIs.cell rfl ty30 (by repeat constructor) rfl) (by exact .cons _ (.cons _ (.refl _))) ?_
    exact ⟨_, G, bs, rfl, rfl, hG, rfl, rfl⟩
end Go.Proofs.YtmfiencoefbjfaaGreatDoor
namespace Go.Proofs.YtmfiencoefbjfaaGreatDoor
section
set_option maxRecDepth 100000
theorem en20 : Enters Tryz.prog 20 := enters_mk Tryz.func20 (by kernel_rfl) rfl
theorem en21 : Enters Tryz.prog 21 := enters_mk Tryz.func21 (by kernel_rfl) rfl
theorem fa24_0 : FAdr Tryz.prog 24 0 0 := fadr_mk Tryz.underlying24 rfl rfl (by kernel_rfl)
theorem fa24_1 : FAdr Tryz.prog 24 1 1 := fadr_mk Tryz.underlying24 rfl rfl (by kernel_rfl)
theorem fa24_2 : FAdr Tryz.prog 24 2 2 := fadr_mk Tryz.underlying24 rfl rfl (by kernel_rfl)
theorem fa30_0 : FAdr Tryz.prog 30 0 0 := fadr_mk Tryz.underlying30 rfl rfl (by kernel_rfl)
theorem ty22 : Ty Tryz.prog 22 false 1 := ⟨⟨_, Tryz.underlying22, rfl⟩, by kernel_rfl⟩
theorem ty4 : Ty Tryz.prog 4 false 1 := ⟨⟨_, Tryz.underlying4, rfl⟩, by kernel_rfl⟩
theorem ty71 : Ty Tryz.prog 71 false 1 := ⟨⟨_, Tryz.underlying71, rfl⟩, by kernel_rfl⟩
theorem z1 : Zero Tryz.prog 1 [.nilFunc] := ⟨zero_of (by kernel_rfl)⟩
theorem z2 : Zero Tryz.prog 2 [.int .i64 0] := ⟨zero_of (by kernel_rfl)⟩
end
open Go.RowKit
/-- The first n elements of row i of a raw matrix with c columns. -/
def rawBits (bs : List Nat) (c i n : Nat) : Nat := maskOf ((List.range n).filter fun j => bitB bs (c * i + j))
theorem rawBits_testBit (bs : List Nat) (c i n j : Nat) : (rawBits bs c i n).testBit j = (decide (j < n) && bitB bs (c * i + j)) := by
  rw [rawBits, maskOf_testBit]
  simp
theorem rawBits_zero (bs : List Nat) (c i : Nat) : rawBits bs c i 0 = 0 := rfl
def rowsAt (bs : List Nat) (r c i j : Nat) : List Nat := (List.range r).map fun q => if q < i then rawBits bs c q c else if q = i then rawBits bs c q j else 0
/-- The rows of a raw matrix. -/
def rawRows (bs : List Nat) (r c : Nat) : List Nat := (List.range r).map fun q => rawBits bs c q c
theorem rowsAt_start (bs : List Nat) (r c : Nat) : rowsAt bs r c 0 0 = List.replicate r 0 := by
  apply List.ext_getElem
  · simp [rowsAt]
  · intro i h1 h2
    simp [rowsAt, rawBits_zero]
theorem rowsAt_next (bs : List Nat) (r c i : Nat) : rowsAt bs r c i c = rowsAt bs r c (i + 1) 0 := by
  apply List.map_congr_left
  intro q _
  rw [rawBits_zero]
  rcases Nat.lt_trichotomy q i with h | h | h
  · rw [if_pos h, if_pos (by omega)]
  · rw [if_neg (by omega), if_pos h, if_pos (by omega)]
  · rw [if_neg (by omega), if_neg (by omega), if_neg (by omega)]
    split <;> rfl
theorem rowsAt_end (bs : List Nat) (r c : Nat) : rowsAt bs r c r 0 = rawRows bs r c := by
  apply List.map_congr_left
  intro q hq
  rw [if_pos (List.mem_range.1 hq)]
theorem rowsAt_len (bs : List Nat) (r c i j : Nat) : (rowsAt bs r c i j).length = r := by simp [rowsAt]
theorem rowsAt_get (bs : List Nat) (r c i j : Nat) (h : i < r) : (rowsAt bs r c i j)[i]? = some (rawBits bs c i j) := by simp [rowsAt, h]
theorem rowsAt_set (bs : List Nat) (r c i j : Nat) : (rowsAt bs r c i j).set i (rawBits bs c i (j + 1)) = rowsAt bs r c i (j + 1) := by
  apply List.ext_getElem
  · simp [rowsAt]
  · intro q h1 h2
    rw [List.getElem_set]
    simp only [rowsAt, List.getElem_map, List.getElem_range]
    split
    · rename_i e; subst e; simp
    · rename_i e
      have : ¬ q = i := fun h => e h.symm
      simp [this]
theorem boolsC_set (bs : List Nat) (c i j : Nat) : (boolsC c (rawBits bs c i j)).set j (.bool (bitB bs (c * i + j))) = boolsC c (rawBits bs c i (j + 1)) := by
  apply List.ext_getElem
  · simp [boolsC]
  · intro q h1 h2
    rw [List.getElem_set]
    simp only [boolsC, List.getElem_map, List.getElem_range, rawBits_testBit]
    split
    · rename_i e; subst e; simp
    · rename_i e
      congr 1
      congr 1
      apply decide_eq_decide.2
      omega
theorem rowO_get (c : Nat) (bs rows : List Nat) (i b m : Nat) (h1 : bs[i]? = some b) (h2 : rows[i]? = some m) : (rowO c bs rows)[i]? = some ⟨b, boolsC c m, 4, c⟩ := by
  rw [rowO, List.getElem?_map, (List.getElem?_zip_eq_some (z := (b, m))).2 ⟨h1, h2⟩]
  rfl
theorem rowO_set (c : Nat) (bs rows : List Nat) (i b m : Nat) (h1 : bs[i]? = some b) (hl : bs.length = rows.length) : (rowO c bs rows).set i ⟨b, boolsC c m, 4, c⟩ = rowO c bs (rows.set i m) := by
  apply List.ext_getElem?
  intro q
  rw [List.getElem?_set]
  have hi := (List.getElem?_eq_some_iff.1 h1).1
  split
  · rename_i e
    subst e
    rw [if_pos (by simp [rowO]; omega)]
    exact (rowO_get c bs (rows.set i m) i b m h1 (List.getElem?_set_self (by omega))).symm
  · rename_i e
    simp only [rowO, List.getElem?_map]
    congr 1
    rcases Nat.lt_or_ge q bs.length with h | h
    · have a1 : (bs.zip rows)[q]? = some (bs[q], rows[q]'(by omega)) := List.getElem?_zip_eq_some.2 ⟨List.getElem?_eq_getElem _, List.getElem?_eq_getElem _⟩
      have a2 : (bs.zip (rows.set i m))[q]? = some (bs[q], rows[q]'(by omega)) := List.getElem?_zip_eq_some.2 ⟨List.getElem?_eq_getElem _, by rw [List.getElem?_set_ne e]; exact List.getElem?_eq_getElem _⟩
      rw [a1, a2]
    · have z1 : (bs.zip rows)[q]? = none := List.getElem?_eq_none (by rw [List.length_zip]; omega)
      have z2 : (bs.zip (rows.set i m))[q]? = none := List.getElem?_eq_none (by rw [List.length_zip]; omega)
      rw [z1, z2]
/-- v is the reference's matrix with c columns and the rows ms. -/
def M44R (X : PMap) (v : Value) (c : Nat) (ms : List Nat) : Prop :=
  ∃ s cs, v = .agg #[.int .i64 (c : Int), s] ∧ SliceR X s ms.length cs ∧ cs.length = ms.length ∧ ∀ (i m : Nat), ms[i]? = some m → ∃ A cp, cs[i]? = some (.slice A c cp) ∧ SliceR X (.slice A c cp) c (boolsC c m)
theorem M44R.mono {X X' : PMap} {v : Value} {c : Nat} {ms : List Nat} (h : M44R X v c ms) (hX : X.le X') : M44R X' v c ms := by
  obtain ⟨s, cs, h1, h2, h3, h4⟩ := h
  exact ⟨s, cs, h1, h2.mono hX, h3, fun i m hm => let ⟨A, cp, g1, g2⟩ := h4 i m hm; ⟨A, cp, g1, g2.mono hX⟩⟩

theorem make44_spec {X : PMap} {s : Value} {bs : List Nat} (R C : Nat) (_hR : R < 256) (_hC : C < 256) (h : BytesR X s bs) : Spec Tryz.prog 6 [.agg #[.int .u8 (R : Int), .int .u8 (C : Int), s]] X fun u X' => M44R X' u (C % 6) (rawRows bs (R % 6) (C % 6)) := by
  obtain ⟨A, cp, rfl⟩ := h.form
  have hr6 : R % 6 < 6 := Nat.mod_lt _ (by omega)
  have hc6 : C % 6 < 6 := Nat.mod_lt _ (by omega)
  generalize hr : R % 6 = r at *
  generalize hc : C % 6 = c at *
  refine Spec.enter Tryz.func6 rfl Tryz.ntmps6 rfl ?_
  intro w0 hw0
  refine T.seq <| T.region <| SL.w (op_box rfl) ?_
  rintro _ _ _ ⟨B1, rfl, rfl, rfl⟩
  refine SL.w (op_alloc z30) ?_
  rintro _ _ _ ⟨B2, rfl, rfl, rfl⟩
  refine SL.nil <| T.seq <| T.region <| SL.v (op_fieldAddr fa24_0 rfl) <| SL.v (op_load ty5 rfl (by repeat constructor) rfl) ?_
  refine SL.v (op_remN (q := 6) rfl rfl rfl (by decide)) ?_
  rw [hr]
  refine SL.v (op_convI64 Tryz.underlying5 Tryz.underlying3 rfl (by omega) (by omega)) ?_
  refine SL.v (op_fieldAddr fa24_1 rfl) <| SL.v (op_load ty5 rfl (by repeat constructor) rfl) ?_
  refine SL.v (op_remN (q := 6) rfl rfl rfl (by decide)) ?_
  rw [hc]
  refine SL.v (op_convI64 Tryz.underlying5 Tryz.underlying3 rfl (by omega) (by omega)) ?_
  refine SL.w (op_callO en20 (vs := [_, _]) rfl (new44_spec r c (by omega) (by omega))) ?_
  rintro _ _ X1 ⟨_, rfl, hX1, s1, G, nb, rfl, hnb, hG, rfl, rfl⟩
  refine SL.perm List.perm_append_comm ?_
  obtain ⟨As, cps, rfl⟩ := hG.form
  refine SL.w (op_alloc z30) ?_
  rintro _ _ _ ⟨B3, rfl, rfl, rfl⟩
  refine SL.w (op_store ty30 rfl rfl (by repeat constructor) rfl rfl rfl) ?_
  rintro _ _ _ ⟨rfl, rfl⟩
  refine SL.nil <| T.seq <| T.seq <| T.region <| SL.v (op_fieldAddr fa30_1 rfl) <| SL.v (op_load ty28 rfl (by repeat constructor) rfl) ?_
  refine SL.v (op_lenS Tryz.underlying28 rfl) <| SL.v (op_move (v := .int .i64 ((0 : Nat) : Int)) rfl) <| SL.nil <| T.block <| T.loopW (fun m env own X' => ∃ i : Nat, m = r - i ∧ i ≤ r ∧ X.le X' ∧ env = [(1, .pointer (some ⟨B1, 0, none⟩)), (2, .pointer (some ⟨B2, 0, none⟩)), (3, .pointer (some ⟨B3, 0, none⟩)), (17, .int .i64 (r : Int)), (18, .int .i64 (i : Int))] ∧ own = ⟨B3, [.int .i64 (c : Int), .slice As r cps], 30, 2⟩ :: ⟨B2, [.int .i64 0, .slice none 0 0], 30, 2⟩ :: ⟨B1, [.int .u8 (R : Int), .int .u8 (C : Int), .slice A bs.length cp], 24, 3⟩ :: (rowO c nb (rowsAt bs r c i 0) ++ G)) r ⟨0, by simp, by omega, PMap.le_refl _, rfl, by rw [rowsAt_start]; rfl⟩ (by repeat (first | exact Sub.nil | refine Sub.cons rfl ?_)) ?_
  rintro m _ _ Y1 ⟨i, rfl, hi, hY1, rfl, rfl⟩
  rcases Nat.lt_or_ge i r with hir | hir
  · skip
    refine T.seq <| T.region <| SL.v (op_lssT rfl rfl (by omega)) ?_
    refine SL.nil <| T.seq <| T.condT rfl <| T.skip <| T.seq <| T.block <| T.seq <| T.region <| SL.mv rfl <| SL.as rfl <| SL.nil <| T.seq <| T.region <| SL.v (op_assign (v := .int .i64 ((0 : Nat) : Int)) rfl) <| SL.nil ?_
    refine T.block <| T.loopW (fun m env own X' => ∃ j : Nat, m = c - j ∧ j ≤ c ∧ X.le X' ∧ env = [(1, .pointer (some ⟨B1, 0, none⟩)), (2, .pointer (some ⟨B2, 0, none⟩)), (3, .pointer (some ⟨B3, 0, none⟩)), (4, .int .i64 (i : Int)), (5, .int .i64 (j : Int)), (17, .int .i64 (r : Int)), (18, .int .i64 (i : Int))] ∧ own = ⟨B3, [.int .i64 (c : Int), .slice As r cps], 30, 2⟩ :: ⟨B2, [.int .i64 0, .slice none 0 0], 30, 2⟩ :: ⟨B1, [.int .u8 (R : Int), .int .u8 (C : Int), .slice A bs.length cp], 24, 3⟩ :: (rowO c nb (rowsAt bs r c i j) ++ G)) c ⟨0, by simp, by omega, hY1, rfl, rfl⟩ (by repeat (first | exact Sub.nil | refine Sub.cons rfl ?_)) ?_
    rintro m _ _ Y2 ⟨j, rfl, hj, hY2, rfl, rfl⟩
    rcases Nat.lt_or_ge j c with hjc | hjc
    · rcases hG with ⟨h0, _⟩ | ⟨bG, cap, he, rfl, hcap, hcm, hcl⟩
      · omega
      · simp only [Value.slice.injEq] at he
        obtain ⟨rfl, _, rfl⟩ := he
        have hci : c * i ≤ 6 * 6 := Nat.mul_le_mul (by omega) (by omega)
        have hnbi : nb[i]? = some (nb[i]'(by omega)) := List.getElem?_eq_getElem _
        have hout : (outC c nb)[i]? = some (.slice (some ⟨nb[i]'(by omega), 0, none⟩) c c) := by rw [outC, List.getElem?_map, hnbi]; rfl
        have hrow := rowO_get c nb (rowsAt bs r c i j) i _ _ hnbi (rowsAt_get bs r c i j hir)
        refine T.seq <| T.seq <| T.region <| SL.mv rfl <| SL.v (op_fieldAddr fa30_0 rfl) <| SL.v (op_load ty3 rfl (by repeat constructor) rfl) ?_
        refine SL.v (op_lssT rfl rfl (by omega)) ?_
        refine SL.nil <| T.condT rfl <| T.skip <| T.seq <| T.block <| T.draw (by kernel_rfl) 16 [.t 0, .t 1, .t 2, .t 3, .t 4, .t 5, .t 6, .t 7, .t 8, .t 9, .t 10, .t 11, .t 12, .t 13, .r 14, .t 15] (by kernel_rfl) ?_
        refine SD.take rfl panicBody (op_fieldAddr fa30_1 rfl) rfl rfl ?_
        refine SD.take rfl panicBody (op_load ty28 rfl (by repeat constructor) rfl) rfl rfl ?_
        refine SD.take rfl panicBody (op_move rfl) rfl rfl ?_
        refine SD.take rfl panicBody (op_indexN Tryz.underlying28 ty71 rfl rfl (by omega)) rfl rfl ?_
        refine SD.take rfl panicBody (op_load ty71 rfl (AtO.there (AtO.there (AtO.there (AtO.append AtO.here (rowO c nb (rowsAt bs r c i j)))))) (cread1 hout)) rfl rfl ?_
        refine SD.take rfl panicBody (op_move rfl) rfl rfl ?_
        refine SD.take rfl panicBody (op_fieldAddr fa24_2 rfl) rfl rfl ?_
        refine SD.take rfl panicBody (op_load ty22 rfl (by repeat constructor) rfl) rfl rfl ?_
        refine SD.take rfl panicBody (op_fieldAddr fa30_0 rfl) rfl rfl ?_
        refine SD.take rfl panicBody (op_load ty3 rfl (by repeat constructor) rfl) rfl rfl ?_
        refine SD.take rfl panicBody (op_move rfl) rfl rfl ?_
        refine SD.take rfl panicBody (op_mulN rfl rfl (by omega)) rfl rfl ?_
        refine SD.take rfl panicBody (op_move rfl) rfl rfl ?_
        refine SD.take rfl panicBody (op_addN rfl rfl (by omega)) rfl rfl ?_
        refine SD.run rfl (op_callF en21 (vs := [_, _]) rfl (bit44_spec (h.mono hY2) (c * i + j) (by omega))) rfl rfl ?_
        rintro _ _ X2 ⟨rfl, hX2, rfl⟩
        have hil : i < (rowO c nb (rowsAt bs r c i j)).length := (List.getElem?_eq_some_iff.1 hrow).1
        refine SD.take rfl panicBody (op_indexN Tryz.underlying71 ty4 rfl rfl (by omega)) rfl rfl ?_
        refine SD.nil ?_
        show SL _ _ _ _ _ _ _ [_] _ _ _
        refine SL.w (op_store ty4 rfl rfl (AtO.there (AtO.there (AtO.there (AtO.of_get (by rw [List.getElem?_append_left hil]; exact hrow))))) rfl rfl (Nat.ble_eq_true_of_le (by simp [boolsC]; omega))) ?_
        rintro _ _ _ ⟨rfl, rfl⟩
        rw [show 0 + j * 1 = j by omega, List.set_cons_succ, List.set_cons_succ, List.set_cons_succ, List.set_append_left _ _ hil, show csets (boolsC c (rawBits bs c i j)) j (vcells (.bool (bitB bs (c * i + j)))) = boolsC c (rawBits bs c i (j + 1)) from boolsC_set bs c i j, rowO_set c nb _ i _ _ hnbi (by rw [rowsAt_len, hnb]), rowsAt_set]
        refine SL.nil <| T.blk <| T.region <| SL.mv rfl <| SL.v (op_addN (q := 1) rfl rfl (by omega)) ?_
        refine SL.as rfl <| SL.nil ?_
        exact T.backW (c - (j + 1)) (by omega) ⟨j + 1, rfl, by omega, hY2.trans' hX2, rfl, rfl⟩ (by repeat (first | exact Sub.nil | refine Sub.cons rfl ?_))
    · obtain rfl : j = c := by omega
      refine T.seq <| T.seq <| T.region <| SL.mv rfl <| SL.v (op_fieldAddr fa30_0 rfl) <| SL.v (op_load ty3 rfl (by repeat constructor) rfl) ?_
      refine SL.v (op_lssF rfl rfl (by omega)) ?_
      refine SL.nil <| T.condF rfl ?_
      refine T.exit (T.exitCode (T.exitCut (T.exitBlk ?_)))
      refine T.blk <| T.region <| SL.v (op_addN (q := 1) rfl rfl (by omega)) ?_
      refine SL.mv rfl <| SL.nil ?_
      exact T.backW (r - (i + 1)) (by omega) ⟨i + 1, rfl, by omega, hY2, rfl, by rw [rowsAt_next]⟩ (by repeat (first | exact Sub.nil | refine Sub.cons rfl ?_))
  · obtain rfl : i = r := by omega
    rw [rowsAt_end]
    refine T.seq <| T.region <| SL.v (op_lssF rfl rfl (by omega)) ?_
    refine SL.nil <| T.seq <| T.condF rfl ?_
    refine T.exit (T.exitCode (T.exitCut (T.exitBlk ?_)))
    refine T.seq <| T.region <| SL.v (op_load ty30 rfl (by repeat constructor) rfl) ?_
    refine SL.w (op_store ty30 rfl rfl (by repeat constructor) rfl rfl rfl) ?_
    rintro _ _ _ ⟨rfl, rfl⟩
    refine SL.nil <| T.perm (own' := rowO c nb (rawRows bs i c) ++ (_ :: _ :: _ :: G)) (List.perm_append_comm_assoc [_, _, _] (rowO c nb (rawRows bs i c)) G) ?_
    refine T.pubList ?_
    intro Y3 hY3 hBs
    refine T.pubG (own0 := [_, _, _]) hG ?_
    intro Y4 hY4 hS4
    refine T.ret1 rfl (ResIs.cell rfl ty30 (by repeat constructor) rfl) ?_
    have hrl : (rawRows bs i c).length = i := by simp [rawRows]
    refine ⟨_, _, rfl, by rw [hrl]; exact hS4, by simp [outC, hnb, hrl], fun q m hm => ?_⟩
    have hq : q < i := by have := (List.getElem?_eq_some_iff.1 hm).1; omega
    have hnbq : nb[q]? = some (nb[q]'(by omega)) := List.getElem?_eq_getElem _
    refine ⟨some ⟨nb[q]'(by omega), 0, none⟩, c, by rw [outC, List.getElem?_map, hnbq]; rfl, ?_⟩
    have hB := (hBs _ (List.mem_of_getElem? (rowO_get c nb _ q _ m hnbq hm))).mono hY4
    rcases Nat.eq_zero_or_pos c with h0 | h0
    · subst h0
      exact .inl ⟨rfl, rfl, _, _, rfl⟩
    · exact .inr ⟨h0, _, _, rfl, hB⟩
end Go.Proofs.YtmfiencoefbjfaaGreatDoor
namespace Go.Proofs.YtmfiencoefbjfaaGreatDoor
section
set_option maxRecDepth 100000
theorem en42 : Enters Tryz.prog 42 := enters_mk Tryz.func42 (by kernel_rfl) rfl
end
open Go.RowKit
theorem has44_spec {X : PMap} {v : Value} {c : Nat} {ms : List Nat} (h : M44R X v c ms) (i j : Int) : Spec Tryz.prog 42 [v, .int .i64 i, .int .i64 j] X fun u _ => u = .bool (elemB c ms i j) := by
  obtain ⟨s, cs, rfl, hS, hl, hrow⟩ := h
  obtain ⟨As, cps, rfl⟩ := hS.form
  by_cases h1 : i < 0
  · refine Spec.enter Tryz.func42 rfl Tryz.ntmps42 rfl ?_
    intro w0 hw0
    refine T.seq <| T.region <| SL.w (op_box rfl) ?_
    rintro _ _ _ ⟨B3, rfl, rfl, rfl⟩
    refine SL.as rfl <| SL.nil <| T.seq <| T.region <| SL.mv rfl <| SL.v (op_geqF rfl rfl (by omega)) ?_
    refine SL.mv rfl <| SL.skip rfl rfl ?_
    refine SL.skip rfl rfl ?_
    refine SL.skip rfl rfl ?_
    refine SL.skip rfl rfl ?_
    refine SL.skip rfl rfl ?_
    refine SL.v (op_pickF rfl rfl) <| SL.mv rfl <| SL.skip rfl rfl ?_
    refine SL.skip rfl rfl ?_
    refine SL.v (op_pickF rfl rfl) <| SL.mv rfl <| SL.skip rfl rfl ?_
    refine SL.skip rfl rfl ?_
    refine SL.skip rfl rfl ?_
    refine SL.skip rfl rfl ?_
    refine SL.v (op_pickF rfl rfl) <| SL.mv rfl <| SL.skip rfl rfl ?_
    refine SL.skip rfl rfl ?_
    refine SL.skip rfl rfl ?_
    refine SL.skip rfl rfl ?_
    refine SL.skip rfl rfl ?_
    refine SL.skip rfl rfl ?_
    refine SL.skip rfl rfl ?_
    refine SL.skip rfl rfl ?_
    refine SL.v (op_pickF rfl rfl) <| SL.as rfl <| SL.nil <| T.ret1 rfl (ResIs.tmp rfl) ?_
    have : ¬ (0 ≤ i ∧ i < ms.length ∧ 0 ≤ j ∧ j < c) := by omega
    simp [elemB, insideB, this]
  · by_cases h2 : (ms.length : Int) ≤ i
    · refine Spec.enter Tryz.func42 rfl Tryz.ntmps42 rfl ?_
      intro w0 hw0
      refine T.seq <| T.region <| SL.w (op_box rfl) ?_
      rintro _ _ _ ⟨B3, rfl, rfl, rfl⟩
      refine SL.as rfl <| SL.nil <| T.seq <| T.region <| SL.mv rfl <| SL.v (op_geqT rfl rfl (by omega)) ?_
      refine SL.mv rfl <| SL.mv rfl <| SL.v (op_fieldAddr fa30_1 rfl) <| SL.v (op_load ty28 rfl (by repeat constructor) rfl) ?_
      refine SL.v (op_lenS Tryz.underlying28 rfl) <| SL.v (op_lssF rfl rfl (by omega)) ?_
      refine SL.v (op_pickT rfl rfl) <| SL.mv rfl <| SL.skip rfl rfl ?_
      refine SL.skip rfl rfl ?_
      refine SL.v (op_pickF rfl rfl) <| SL.mv rfl <| SL.skip rfl rfl ?_
      refine SL.skip rfl rfl ?_
      refine SL.skip rfl rfl ?_
      refine SL.skip rfl rfl ?_
      refine SL.v (op_pickF rfl rfl) <| SL.mv rfl <| SL.skip rfl rfl ?_
      refine SL.skip rfl rfl ?_
      refine SL.skip rfl rfl ?_
      refine SL.skip rfl rfl ?_
      refine SL.skip rfl rfl ?_
      refine SL.skip rfl rfl ?_
      refine SL.skip rfl rfl ?_
      refine SL.skip rfl rfl ?_
      refine SL.v (op_pickF rfl rfl) <| SL.as rfl <| SL.nil <| T.ret1 rfl (ResIs.tmp rfl) ?_
      have : ¬ (0 ≤ i ∧ i < ms.length ∧ 0 ≤ j ∧ j < c) := by omega
      simp [elemB, insideB, this]
    · by_cases h3 : j < 0
      · refine Spec.enter Tryz.func42 rfl Tryz.ntmps42 rfl ?_
        intro w0 hw0
        refine T.seq <| T.region <| SL.w (op_box rfl) ?_
        rintro _ _ _ ⟨B3, rfl, rfl, rfl⟩
        refine SL.as rfl <| SL.nil <| T.seq <| T.region <| SL.mv rfl <| SL.v (op_geqT rfl rfl (by omega)) ?_
        refine SL.mv rfl <| SL.mv rfl <| SL.v (op_fieldAddr fa30_1 rfl) <| SL.v (op_load ty28 rfl (by repeat constructor) rfl) ?_
        refine SL.v (op_lenS Tryz.underlying28 rfl) <| SL.v (op_lssT rfl rfl (by omega)) ?_
        refine SL.v (op_pickT rfl rfl) <| SL.mv rfl <| SL.mv rfl <| SL.v (op_geqF rfl rfl (by omega)) ?_
        refine SL.v (op_pickT rfl rfl) <| SL.mv rfl <| SL.skip rfl rfl ?_
        refine SL.skip rfl rfl ?_
        refine SL.skip rfl rfl ?_
        refine SL.skip rfl rfl ?_
        refine SL.v (op_pickF rfl rfl) <| SL.mv rfl <| SL.skip rfl rfl ?_
        refine SL.skip rfl rfl ?_
        refine SL.skip rfl rfl ?_
        refine SL.skip rfl rfl ?_
        refine SL.skip rfl rfl ?_
        refine SL.skip rfl rfl ?_
        refine SL.skip rfl rfl ?_
        refine SL.skip rfl rfl ?_
        refine SL.v (op_pickF rfl rfl) <| SL.as rfl <| SL.nil <| T.ret1 rfl (ResIs.tmp rfl) ?_
        have : ¬ (0 ≤ i ∧ i < ms.length ∧ 0 ≤ j ∧ j < c) := by omega
        simp [elemB, insideB, this]
      · by_cases h4 : (c : Int) ≤ j
        · refine Spec.enter Tryz.func42 rfl Tryz.ntmps42 rfl ?_
          intro w0 hw0
          refine T.seq <| T.region <| SL.w (op_box rfl) ?_
          rintro _ _ _ ⟨B3, rfl, rfl, rfl⟩
          refine SL.as rfl <| SL.nil <| T.seq <| T.region <| SL.mv rfl <| SL.v (op_geqT rfl rfl (by omega)) ?_
          refine SL.mv rfl <| SL.mv rfl <| SL.v (op_fieldAddr fa30_1 rfl) <| SL.v (op_load ty28 rfl (by repeat constructor) rfl) ?_
          refine SL.v (op_lenS Tryz.underlying28 rfl) <| SL.v (op_lssT rfl rfl (by omega)) ?_
          refine SL.v (op_pickT rfl rfl) <| SL.mv rfl <| SL.mv rfl <| SL.v (op_geqT rfl rfl (by omega)) ?_
          refine SL.v (op_pickT rfl rfl) <| SL.mv rfl <| SL.mv rfl <| SL.v (op_fieldAddr fa30_0 rfl) <| SL.v (op_load ty3 rfl (by repeat constructor) rfl) ?_
          refine SL.v (op_lssF rfl rfl (by omega)) ?_
          refine SL.v (op_pickT rfl rfl) <| SL.mv rfl <| SL.skip rfl rfl ?_
          refine SL.skip rfl rfl ?_
          refine SL.skip rfl rfl ?_
          refine SL.skip rfl rfl ?_
          refine SL.skip rfl rfl ?_
          refine SL.skip rfl rfl ?_
          refine SL.skip rfl rfl ?_
          refine SL.skip rfl rfl ?_
          refine SL.v (op_pickF rfl rfl) <| SL.as rfl <| SL.nil <| T.ret1 rfl (ResIs.tmp rfl) ?_
          have : ¬ (0 ≤ i ∧ i < ms.length ∧ 0 ≤ j ∧ j < c) := by omega
          simp [elemB, insideB, this]
        · obtain ⟨a, rfl⟩ := Int.eq_ofNat_of_zero_le (show 0 ≤ i by omega)
          obtain ⟨k, rfl⟩ := Int.eq_ofNat_of_zero_le (show 0 ≤ j by omega)
          have ha : a < ms.length := by omega
          have hk : k < c := by omega
          obtain ⟨bo, rfl, hBo⟩ := hS.blk (by omega)
          obtain ⟨Ar, cpr, hcell, hR⟩ := hrow a ms[a] (by simp [ha])
          obtain ⟨br, rfl, hBr⟩ := hR.blk (by omega)
          have hget : (boolsC c ms[a])[k]? = some (.bool (ms[a].testBit k)) := by simp [boolsC, hk]
          refine Spec.enter Tryz.func42 rfl Tryz.ntmps42 rfl ?_
          intro w0 hw0
          refine T.seq <| T.region <| SL.w (op_box rfl) ?_
          rintro _ _ _ ⟨B3, rfl, rfl, rfl⟩
          refine SL.as rfl <| SL.nil <| T.seq <| T.region <| SL.mv rfl <| SL.v (op_geqT rfl rfl (by omega)) ?_
          refine SL.mv rfl <| SL.mv rfl <| SL.v (op_fieldAddr fa30_1 rfl) <| SL.v (op_load ty28 rfl (by repeat constructor) rfl) ?_
          refine SL.v (op_lenS Tryz.underlying28 rfl) <| SL.v (op_lssT rfl rfl (by omega)) ?_
          refine SL.v (op_pickT rfl rfl) <| SL.mv rfl <| SL.mv rfl <| SL.v (op_geqT rfl rfl (by omega)) ?_
          refine SL.v (op_pickT rfl rfl) <| SL.mv rfl <| SL.mv rfl <| SL.v (op_fieldAddr fa30_0 rfl) <| SL.v (op_load ty3 rfl (by repeat constructor) rfl) ?_
          refine SL.v (op_lssT rfl rfl (by omega)) ?_
          refine SL.v (op_pickT rfl rfl) <| SL.mv rfl <| SL.v (op_fieldAddr fa30_1 rfl) <| SL.v (op_load ty28 rfl (by repeat constructor) rfl) ?_
          refine SL.mv rfl <| SL.v (op_indexN Tryz.underlying28 ty71 rfl rfl (by omega)) ?_
          refine SL.v (op_loadX ty71 rfl hBo (cread1 hcell)) <| SL.mv rfl <| SL.v (op_indexN Tryz.underlying71 ty4 rfl rfl (by omega)) ?_
          refine SL.v (op_loadX ty4 rfl hBr (cread1 hget)) <| SL.v (op_pickT rfl rfl) <| SL.as rfl <| SL.nil <| T.ret1 rfl (ResIs.tmp rfl) ?_
          have : (0 : Int) ≤ (a : Int) ∧ (a : Int) < ms.length ∧ (0 : Int) ≤ (k : Int) ∧ (k : Int) < c := by omega
          simp [elemB, insideB, this, ha]
def rowL (c : Nat) (ms : List Nat) (i : Int) (n : Nat) : List Nat := (List.range n).filter fun j => elemB c ms i (j : Int)
theorem rowL_succ (c : Nat) (ms : List Nat) (i : Int) (n : Nat) : rowL c ms i (n + 1) = if elemB c ms i (n : Int) then rowL c ms i n ++ [n] else rowL c ms i n := by
  unfold rowL
  rw [List.range_succ, List.filter_append, List.filter_cons]
  split <;> simp
theorem rowL_lt {c : Nat} {ms : List Nat} {i : Int} {n j : Nat} (h : j ∈ rowL c ms i n) : j < n := by
  simp only [rowL, List.mem_filter, List.mem_range] at h
  exact h.1
theorem rowL_len (c : Nat) (ms : List Nat) (i : Int) (n : Nat) : (rowL c ms i n).length ≤ n := by
  have := List.length_filter_le (fun (j : Nat) => elemB c ms i (j : Int)) (List.range n)
  simpa [rowL] using this
theorem row44_spec {X : PMap} {v : Value} {c : Nat} {ms : List Nat} (h : M44R X v c ms) (i : Int) (hc : c < 64) : Spec Tryz.prog 18 [v, .int .i64 i] X fun u X' => SliceR X' u (rowL c ms i c).length (ints (rowL c ms i c)) := by
  have hh := h
  obtain ⟨s, cs, rfl, hS, hl, hrow⟩ := h
  obtain ⟨As, cps, rfl⟩ := hS.form
  refine Spec.enter Tryz.func18 rfl Tryz.ntmps18 rfl ?_
  intro w0 hw0
  refine T.seq <| T.region <| SL.w (op_box rfl) ?_
  rintro _ _ _ ⟨B2, rfl, rfl, rfl⟩
  refine SL.as rfl <| SL.nil <| T.seq <| T.region <| SL.as rfl <| SL.nil <| T.seq <| T.seq <| T.region <| SL.v (op_assign (v := .int .i64 ((0 : Nat) : Int)) rfl) <| SL.nil <| T.block <| T.loopW (fun m env own X' => ∃ (k : Nat) (s : Value) (G : Own), m = c - k ∧ k ≤ c ∧ X.le X' ∧ GrowS 3 1 s (rowL c ms i k).length (ints (rowL c ms i k)) G ∧ env = [(1, .int .i64 i), (2, .pointer (some ⟨B2, 0, none⟩)), (5, s), (6, .int .i64 (k : Int))] ∧ own = ⟨B2, [.int .i64 (c : Int), .slice As ms.length cps], 30, 2⟩ :: G) c ⟨0, _, _, by simp, by omega, PMap.le_refl _, GrowS.nil, rfl, rfl⟩ (by repeat (first | exact Sub.nil | refine Sub.cons rfl ?_)) ?_
  rintro m _ _ X1 ⟨k, s, G, rfl, hk, hX1, hG, rfl, rfl⟩
  have hcl := rowL_len c ms i k
  rcases Nat.lt_or_ge k c with hkl | hkl
  · skip
    refine T.seq <| T.seq <| T.region <| SL.mv rfl <| SL.v (op_fieldAddr fa30_0 rfl) <| SL.v (op_load ty3 rfl (by repeat constructor) rfl) ?_
    refine SL.v (op_lssT rfl rfl (by omega)) ?_
    refine SL.nil <| T.condT rfl <| T.skip <| T.seq <| T.block <| T.seq <| T.region <| SL.v (op_load ty30 rfl (by repeat constructor) rfl) ?_
    refine SL.mv rfl <| SL.mv rfl <| SL.w (op_callF en42 (vs := [_, _, _]) rfl (has44_spec (hh.mono hX1) i (k : Int))) ?_
    rintro _ _ X3 ⟨rfl, hX3, rfl⟩
    cases hel : elemB c ms i (k : Int) with
    | true =>
      refine SL.nil <| T.condT rfl <| T.region <| SL.mv rfl <| SL.mv rfl <| SL.w (op_buildSlice Tryz.underlying42 bs3 (qs := [(0, _)]) rfl rfl rfl rfl rfl) ?_
      rintro _ _ _ ⟨B19, rfl, rfl, rfl⟩
      refine SL.w (op_appendG (own0 := [_]) sl42 rfl hG rfl rfl rfl (by (have : maxLen = 9223372036854775807 := rfl); omega) (by omega)) ?_
      rintro s' _ _ ⟨G', rfl, rfl, hG'⟩
      refine SL.as rfl <| SL.nil <| T.blk <| T.region <| SL.mv rfl <| SL.v (op_addN (q := 1) rfl rfl (by omega)) ?_
      refine SL.as rfl <| SL.nil ?_
      exact T.backW (c - (k + 1)) (by omega) ⟨k + 1, s', G', rfl, by omega, hX1.trans' hX3, by rw [rowL_succ, hel]; simpa [ints, csets, vcells] using hG', rfl, rfl⟩ (by repeat (first | exact Sub.nil | refine Sub.cons rfl ?_))
    | false =>
      refine SL.nil <| T.condF rfl <| T.skip <| T.blk <| T.region <| SL.mv rfl <| SL.v (op_addN (q := 1) rfl rfl (by omega)) ?_
      refine SL.as rfl <| SL.nil ?_
      exact T.backW (c - (k + 1)) (by omega) ⟨k + 1, s, G, rfl, by omega, hX1.trans' hX3, by rw [rowL_succ, hel]; exact hG, rfl, rfl⟩ (by repeat (first | exact Sub.nil | refine Sub.cons rfl ?_))
  · obtain rfl : k = c := by omega
    refine T.seq <| T.seq <| T.region <| SL.mv rfl <| SL.v (op_fieldAddr fa30_0 rfl) <| SL.v (op_load ty3 rfl (by repeat constructor) rfl) ?_
    refine SL.v (op_lssF rfl rfl (by omega)) ?_
    refine SL.nil <| T.condF rfl ?_
    refine T.exit (T.exitCode (T.exitCut (T.exitBlk ?_)))
    refine T.seq <| T.region <| SL.mv rfl <| SL.as rfl <| SL.nil <| T.pubG (own0 := [_]) hG ?_
    intro X3 hX3 hS3
    refine T.ret1 rfl (ResIs.tmp rfl) ?_
    exact hS3
end Go.Proofs.YtmfiencoefbjfaaGreatDoor
namespace Go.Proofs.YtmfiencoefbjfaaGreatDoor
section
set_option maxRecDepth 100000
theorem bs65 : ∃ i z, Tryz.prog.info? 65 = some i ∧ i.size = 1 ∧ i.zero = some z ∧ z.cells = ([.slice none 0 0] : List Value).toArray := bs_of (by kernel_rfl)
theorem en18 : Enters Tryz.prog 18 := enters_mk Tryz.func18 (by kernel_rfl) rfl
theorem en19 : Enters Tryz.prog 19 := enters_mk Tryz.func19 (by kernel_rfl) rfl
theorem sl62 : SlT Tryz.prog 62 65 1 24 := ⟨Tryz.underlying62, sl_of (by kernel_rfl) (by decide)⟩
end
open Go.RowKit
theorem rowL_mask {c : Nat} {ms : List Nat} {i : Nat} (hi : i < ms.length) (hlt : ms[i] < 2 ^ c) : maskOf (rowL c ms (i : Int) c) = ms[i] := by
  apply Nat.eq_of_testBit_eq
  intro j
  rw [maskOf_testBit]
  by_cases hj : j < c
  · have : (0 : Int) ≤ (i : Int) ∧ (i : Int) < ms.length ∧ (0 : Int) ≤ (j : Int) ∧ (j : Int) < c := by omega
    simp [rowL, hj, elemB, insideB, this, hi]
  · have h1 : j ∉ rowL c ms (i : Int) c := fun h => hj (rowL_lt h)
    have h2 : ms[i].testBit j = false := Nat.testBit_lt_two_pow (Nat.lt_of_lt_of_le hlt (Nat.pow_le_pow_right (by omega) (by omega)))
    simp [h1, h2]
theorem SetsR.snoc {X : PMap} {cs : List Value} {ms : List Nat} (h : SetsR X cs ms) {x : Value} {m : Nat} (hx : SetR X (.agg #[x]) m) : SetsR X (cs ++ [x]) (ms ++ [m]) := by
  refine ⟨by simp [h.1], fun i q hq => ?_⟩
  rcases Nat.lt_or_ge i ms.length with hi | hi
  · rw [List.getElem?_append_left hi] at hq
    obtain ⟨c, h1, h2⟩ := h.2 i q hq
    exact ⟨c, by rw [List.getElem?_append_left (by have := h.1; omega)]; exact h1, h2⟩
  · have hl := (List.getElem?_eq_some_iff.1 hq).1
    simp at hl
    obtain rfl : i = ms.length := by omega
    have : q = m := by simpa using hq.symm
    subst this
    exact ⟨x, by rw [← h.1]; simp, hx⟩
theorem within_of_lt {m c : Nat} (h : m < 2 ^ c) (hc : c < 64) : withinB m (2 ^ c - 1) = true := by
  have hp : 2 ^ c < 18446744073709551616 := Nat.pow_lt_pow_right (a := 2) (by omega) hc
  have hp0 : 0 < 2 ^ c := Nat.pow_pos (by omega)
  simp only [withinB, decide_eq_true_eq]
  apply Nat.eq_of_testBit_eq
  intro j
  rw [Nat.testBit_and, Nat.zero_testBit, show 18446744073709551615 - (2 ^ c - 1) = 2 ^ 64 - (2 ^ c - 1 + 1) by omega, Nat.testBit_two_pow_sub_succ (by omega), Nat.testBit_two_pow_sub_one]
  by_cases hj : j < c
  · simp [hj]
  · rw [Nat.testBit_lt_two_pow (Nat.lt_of_lt_of_le h (Nat.pow_le_pow_right (by omega) (by omega)))]
    simp
theorem matrix44_spec {X : PMap} {v : Value} {c : Nat} {ms : List Nat} (h : M44R X v c ms) (hr : ms.length < 64) (hc : c < 64) (hall : ∀ m ∈ ms, m < 2 ^ c) : Spec Tryz.prog 5 [v] X fun u X' => MatR X' u c ms := by
  have hh := h
  obtain ⟨s, cs, rfl, hS, hl, hrow⟩ := h
  obtain ⟨As, cps, rfl⟩ := hS.form
  refine Spec.enter Tryz.func5 rfl Tryz.ntmps5 rfl ?_
  intro w0 hw0
  refine T.seq <| T.region <| SL.w (op_box rfl) ?_
  rintro _ _ _ ⟨B1, rfl, rfl, rfl⟩
  refine SL.as rfl <| SL.nil <| T.seq <| T.region <| SL.as rfl <| SL.nil <| T.seq <| T.seq <| T.region <| SL.v (op_fieldAddr fa30_1 rfl) <| SL.v (op_load ty28 rfl (by repeat constructor) rfl) ?_
  refine SL.v (op_lenS Tryz.underlying28 rfl) <| SL.v (op_move (v := .int .i64 ((0 : Nat) : Int)) rfl) <| SL.nil <| T.block <| T.loopW (fun m env own X' => ∃ (k : Nat) (s : Value) (G : Own) (cs : List Value), m = ms.length - k ∧ k ≤ ms.length ∧ X.le X' ∧ GrowS 65 1 s k cs G ∧ SetsR X' cs (ms.take k) ∧ env = [(1, .pointer (some ⟨B1, 0, none⟩)), (3, s), (9, .int .i64 (ms.length : Int)), (10, .int .i64 (k : Int))] ∧ own = ⟨B1, [.int .i64 (c : Int), .slice As ms.length cps], 30, 2⟩ :: G) ms.length ⟨0, _, _, [], by simp, by omega, PMap.le_refl _, GrowS.nil, ⟨rfl, fun i m h => by simp at h⟩, rfl, rfl⟩ (by repeat (first | exact Sub.nil | refine Sub.cons rfl ?_)) ?_
  rintro m _ _ X1 ⟨k, s, G, cs', rfl, hk, hX1, hG, hC, rfl, rfl⟩
  rcases Nat.lt_or_ge k ms.length with hkl | hkl
  · skip
    refine T.seq <| T.region <| SL.v (op_lssT rfl rfl (by omega)) ?_
    refine SL.nil <| T.seq <| T.condT rfl <| T.skip <| T.seq <| T.block <| T.seq <| T.region <| SL.mv rfl <| SL.as rfl <| SL.nil <| T.region <| SL.mv rfl <| SL.v (op_load ty30 rfl (by repeat constructor) rfl) ?_
    refine SL.mv rfl <| SL.w (op_callF en18 (vs := [_, _]) rfl (row44_spec (hh.mono hX1) (k : Int) hc)) ?_
    rintro _ _ X3 ⟨rfl, hX3, hS3⟩
    refine SL.w (op_callF en17 (vs := [_]) rfl (of_spec hS3 (fun i hi => by have := rowL_lt hi; omega) (by have := rowL_len c ms (k : Int) c; omega))) ?_
    rintro _ _ X4 ⟨rfl, hX4, hS4⟩
    rw [rowL_mask hkl (hall _ (List.getElem_mem hkl))] at hS4
    obtain ⟨A4, l4, c4, rfl⟩ := hS4.form
    refine SL.w (op_buildSlice Tryz.underlying62 bs65 (qs := [(0, _)]) rfl rfl rfl rfl rfl) ?_
    rintro _ _ _ ⟨B18, rfl, rfl, rfl⟩
    refine SL.w (op_appendG (own0 := [_]) sl62 rfl hG rfl rfl rfl (by (have : maxLen = 9223372036854775807 := rfl); omega) (by omega)) ?_
    rintro s' _ _ ⟨G', rfl, rfl, hG'⟩
    refine SL.as rfl <| SL.nil <| T.blk <| T.region <| SL.v (op_addN (q := 1) rfl rfl (by omega)) ?_
    refine SL.mv rfl <| SL.nil ?_
    exact T.backW (ms.length - (k + 1)) (by omega) ⟨k + 1, s', G', _, rfl, by omega, (hX1.trans' hX3).trans' hX4, hG', by rw [List.take_succ_eq_append_getElem hkl]; exact ((hC.mono hX3).mono hX4).snoc hS4, rfl, rfl⟩ (by repeat (first | exact Sub.nil | refine Sub.cons rfl ?_))
  · obtain rfl : k = ms.length := by omega
    rw [List.take_length] at hC
    refine T.seq <| T.region <| SL.v (op_lssF rfl rfl (by omega)) ?_
    refine SL.nil <| T.seq <| T.condF rfl ?_
    refine T.exit (T.exitCode (T.exitCut (T.exitBlk ?_)))
    refine T.seq <| T.region <| SL.v (op_fieldAddr fa30_0 rfl) <| SL.v (op_load ty3 rfl (by repeat constructor) rfl) ?_
    refine SL.mv rfl <| T.pubGAt (own0 := [_]) hG ?_
    intro X3 hX3 hS3
    refine SL.w (op_callF en19 (vs := [_, _]) rfl (mof_spec c hS3 (hC.mono hX3) hr hc (fun m hm => within_of_lt (hall m hm) hc))) ?_
    rintro _ _ X4 ⟨rfl, hX4, w, rfl, hM⟩
    obtain ⟨bm, rfl⟩ := hM.ptr
    refine SL.mv rfl <| SL.v (op_extract rfl rfl) <| SL.v (op_extract rfl rfl) <| SL.as rfl <| SL.as rfl <| SL.nil <| T.seq <| T.seq <| T.region <| SL.mv rfl <| SL.v (op_neqF rfl rfl (by omega)) ?_
    refine SL.nil <| T.condF rfl <| T.skip <| T.seq <| T.region <| SL.mv rfl <| SL.as rfl <| SL.nil <| T.ret1 rfl (ResIs.tmp rfl) ?_
    exact hM
end Go.Proofs.YtmfiencoefbjfaaGreatDoor
namespace Go.Proofs.YtmfiencoefbjfaaGreatDoor
open Go.RowKit
theorem clear_testBit {m i q : Nat} (hm : m < 18446744073709551616) (hi : i < 64) : (m &&& (18446744073709551615 - 2 ^ i)).testBit q = (m.testBit q && decide (i ≠ q)) := by
  have hp : 2 ^ i < 18446744073709551616 := Nat.pow_lt_pow_right (a := 2) (by omega) hi
  rw [Nat.testBit_and, show 18446744073709551615 - 2 ^ i = 2 ^ 64 - (2 ^ i + 1) by omega, Nat.testBit_two_pow_sub_succ (by simpa using hp), Nat.testBit_two_pow]
  by_cases hj : m.testBit q = true
  · have h64 : q < 64 := by
      rcases Nat.lt_or_ge q 64 with h | h
      · exact h
      · rw [testBit_big hm h] at hj; cases hj
    simp [hj, h64]
  · simp [hj]
/-- Row i has column j. -/
def Rel (ms : List Nat) (i j : Nat) : Bool := (ms.getD i 0).testBit j
end Go.Proofs.YtmfiencoefbjfaaGreatDoor
namespace Go.Proofs.YtmfiencoefbjfaaGreatDoor
open Go.RowKit
theorem foldAnd_testBit (p : Nat → Bool) (f : Nat → Nat) (j : Nat) : ∀ (l : List Nat) (s : Nat), (l.foldl (fun o i => if p i = true then o &&& f i else o) s).testBit j = true ↔ s.testBit j = true ∧ ∀ i ∈ l, p i = true → (f i).testBit j = true
  | [], s => by simp
  | i :: l, s => by
    rw [List.foldl_cons, foldAnd_testBit p f j l]
    by_cases hp : p i = true
    · simp [hp, and_assoc]
    · simp [hp]
theorem rowM_testBit (ms : List Nat) (i j : Nat) (h : i < ms.length) : (rowM ms (i : Int)).testBit j = Rel ms i j := by
  rw [rowM, if_pos (by omega)]
  simp [Rel]
theorem colM_testBit (c : Nat) (ms : List Nat) (i j : Nat) (hj : j < c) : (colM c ms (j : Int)).testBit i = (decide (i < ms.length) && Rel ms i j) := by
  rw [colM, maskOf_testBit]
  by_cases hi : i < ms.length
  · have : (0 : Int) ≤ (i : Int) ∧ (i : Int) < ms.length ∧ (0 : Int) ≤ (j : Int) ∧ (j : Int) < c := by omega
    simp [colL, hi, elemB, insideB, this, Rel]
  · have h1 : i ∉ colL c ms (j : Int) ms.length := fun h => hi (colL_lt h)
    simp [h1, hi]
theorem com_iff (c : Nat) (ms : List Nat) (rows j : Nat) (hr : ms.length ≤ 64) : (com c ms rows).testBit j = true ↔ j < c ∧ ∀ i, i < ms.length → rows.testBit i = true → Rel ms i j = true := by
  have h := foldAnd_testBit (fun i => decide (i < ms.length)) (fun i => rowM ms (i : Int)) j (mem64 rows) (2 ^ c - 1)
  simp only [decide_eq_true_eq] at h
  rw [com, comF, h, Nat.testBit_two_pow_sub_one, decide_eq_true_eq]
  refine and_congr_right fun _ => ⟨fun h i hi hb => ?_, fun h i hm hi => ?_⟩
  · rw [← rowM_testBit ms i j hi]
    exact h i (mem_mem64.2 ⟨by omega, hb⟩) hi
  · rw [rowM_testBit ms i j hi]
    exact h i hi (mem_mem64.1 hm).2
theorem hav_iff (c : Nat) (ms : List Nat) (cols i : Nat) (hc : c ≤ 64) : (hav c ms cols).testBit i = true ↔ i < ms.length ∧ ∀ j, j < c → cols.testBit j = true → Rel ms i j = true := by
  have h := foldAnd_testBit (fun j => decide (j < c)) (fun j => colM c ms (j : Int)) i (mem64 cols) (2 ^ ms.length - 1)
  simp only [decide_eq_true_eq] at h
  rw [hav, havF, h, Nat.testBit_two_pow_sub_one, decide_eq_true_eq]
  refine and_congr_right fun hi => ⟨fun h j hj hb => ?_, fun h j hm hj => ?_⟩
  · have := h j (mem_mem64.2 ⟨by omega, hb⟩) hj
    rw [colM_testBit c ms i j hj] at this
    simpa [hi] using this
  · rw [colM_testBit c ms i j hj]
    simp [hi, h j hj (mem_mem64.1 hm).2]
/-- a is part of b. -/
def SubB (a b : Nat) : Prop := ∀ j, a.testBit j = true → b.testBit j = true
theorem SubB.refl (a : Nat) : SubB a a := fun _ h => h
theorem SubB.trans {a b c : Nat} (h : SubB a b) (h' : SubB b c) : SubB a c := fun j hj => h' j (h j hj)
theorem SubB.antisymm {a b : Nat} (h : SubB a b) (h' : SubB b a) : a = b := by
  apply Nat.eq_of_testBit_eq
  intro j
  have h1 := h j
  have h2 := h' j
  cases hx : a.testBit j <;> cases hy : b.testBit j <;> simp_all
theorem lt_pow_of_bits {a c : Nat} (h : ∀ j, a.testBit j = true → j < c) : a < 2 ^ c := by
  apply Nat.lt_pow_two_of_testBit
  intro j hj
  cases hb : a.testBit j with
  | false => rfl
  | true => have := h j hb; omega
theorem bits_of_lt {a c j : Nat} (h : a < 2 ^ c) (hj : a.testBit j = true) : j < c := by
  rcases Nat.lt_or_ge j c with h1 | h1
  · exact h1
  · rw [Nat.testBit_lt_two_pow (Nat.lt_of_lt_of_le h (Nat.pow_le_pow_right (by omega) h1))] at hj
    cases hj
theorem com_anti {c : Nat} {ms : List Nat} (hr : ms.length ≤ 64) (_hc : c ≤ 64) {a b : Nat} (h : SubB a b) : SubB (com c ms b) (com c ms a) := fun j hj => by
  rw [com_iff c ms _ j hr] at hj ⊢
  exact ⟨hj.1, fun i hi hb => hj.2 i hi (h i hb)⟩
theorem hav_anti {c : Nat} {ms : List Nat} (_hr : ms.length ≤ 64) (hc : c ≤ 64) {a b : Nat} (h : SubB a b) : SubB (hav c ms b) (hav c ms a) := fun i hi => by
  rw [hav_iff c ms _ i hc] at hi ⊢
  exact ⟨hi.1, fun j hj hb => hi.2 j hj (h j hb)⟩
theorem com_lt {c : Nat} {ms : List Nat} (hr : ms.length ≤ 64) (_hc : c ≤ 64) (a : Nat) : com c ms a < 2 ^ c := lt_pow_of_bits fun j hj => ((com_iff c ms _ j hr).1 hj).1
theorem hav_lt {c : Nat} {ms : List Nat} (_hr : ms.length ≤ 64) (hc : c ≤ 64) (a : Nat) : hav c ms a < 2 ^ ms.length := lt_pow_of_bits fun i hi => ((hav_iff c ms _ i hc).1 hi).1
/-- Rows that have all of the columns: the two sides of the connection. -/
theorem galois {c : Nat} {ms : List Nat} (hr : ms.length ≤ 64) (hc : c ≤ 64) {r s : Nat} (hs : s < 2 ^ c) (hrr : r < 2 ^ ms.length) : SubB r (hav c ms s) ↔ SubB s (com c ms r) := by
  constructor
  · intro h j hj
    rw [com_iff c ms _ j hr]
    exact ⟨bits_of_lt hs hj, fun i hi hb => ((hav_iff c ms _ i hc).1 (h i hb)).2 j (bits_of_lt hs hj) hj⟩
  · intro h i hi
    rw [hav_iff c ms _ i hc]
    exact ⟨bits_of_lt hrr hi, fun j hj hb => ((com_iff c ms _ j hr).1 (h j hb)).2 i (bits_of_lt hrr hi) hi⟩
theorem clo_lt {c : Nat} {ms : List Nat} (hr : ms.length ≤ 64) (hc : c ≤ 64) (a : Nat) : clo c ms a < 2 ^ c := com_lt hr hc _
theorem clo_ext {c : Nat} {ms : List Nat} (hr : ms.length ≤ 64) (hc : c ≤ 64) {s : Nat} (hs : s < 2 ^ c) : SubB s (clo c ms s) := (galois hr hc hs (hav_lt hr hc s)).1 (SubB.refl _)
theorem clo_mono {c : Nat} {ms : List Nat} (hr : ms.length ≤ 64) (hc : c ≤ 64) {a b : Nat} (h : SubB a b) : SubB (clo c ms a) (clo c ms b) := com_anti hr hc (hav_anti hr hc h)
theorem hav_com_ext {c : Nat} {ms : List Nat} (hr : ms.length ≤ 64) (hc : c ≤ 64) {r : Nat} (h : r < 2 ^ ms.length) : SubB r (hav c ms (com c ms r)) := (galois hr hc (com_lt hr hc r) h).2 (SubB.refl _)
theorem hav_clo {c : Nat} {ms : List Nat} (hr : ms.length ≤ 64) (hc : c ≤ 64) (a : Nat) (ha : a < 2 ^ c) : hav c ms (clo c ms a) = hav c ms a := SubB.antisymm (hav_anti hr hc (clo_ext hr hc ha)) (hav_com_ext hr hc (hav_lt hr hc a))
theorem com_clo {c : Nat} {ms : List Nat} (hr : ms.length ≤ 64) (hc : c ≤ 64) (r : Nat) (h : r < 2 ^ ms.length) : clo c ms (com c ms r) = com c ms r := SubB.antisymm (com_anti hr hc (hav_com_ext hr hc h)) (clo_ext hr hc (com_lt hr hc r))
theorem clo_idem {c : Nat} {ms : List Nat} (hr : ms.length ≤ 64) (hc : c ≤ 64) (a : Nat) : clo c ms (clo c ms a) = clo c ms a := com_clo hr hc _ (hav_lt hr hc a)
/-- The lectic order. -/
def bef (a b : Nat) : Prop := ∃ q, (∀ i, i < q → a.testBit i = b.testBit i) ∧ a.testBit q = false ∧ b.testBit q = true
theorem bef_irrefl (a : Nat) : ¬ bef a a := fun ⟨q, _, h1, h2⟩ => by rw [h1] at h2; cases h2
theorem bef_trans {a b c : Nat} (h : bef a b) (h' : bef b c) : bef a c := by
  obtain ⟨q, h1, h2, h3⟩ := h
  obtain ⟨p, g1, g2, g3⟩ := h'
  rcases Nat.lt_trichotomy q p with hlt | rfl | hlt
  · exact ⟨q, fun i hi => (h1 i hi).trans (g1 i (by omega)), h2, by rw [← g1 q hlt]; exact h3⟩
  · rw [h3] at g2; cases g2
  · exact ⟨p, fun i hi => (h1 i (by omega)).trans (g1 i hi), by rw [h1 p hlt]; exact g2, g3⟩
theorem bef_asymm {a b : Nat} (h : bef a b) (h' : bef b a) : False := bef_irrefl a (bef_trans h h')
theorem first_diff {a b : Nat} (h : a ≠ b) : ∃ q, (∀ i, i < q → a.testBit i = b.testBit i) ∧ a.testBit q ≠ b.testBit q := by
  have hex : ∃ q, a.testBit q ≠ b.testBit q := by
    refine Classical.byContradiction fun hn => h (Nat.eq_of_testBit_eq fun i => ?_)
    exact Classical.byContradiction fun hi => hn ⟨i, hi⟩
  obtain ⟨q, hq⟩ := hex
  have key : ∀ n q, q ≤ n → a.testBit q ≠ b.testBit q → ∃ q, (∀ i, i < q → a.testBit i = b.testBit i) ∧ a.testBit q ≠ b.testBit q := by
    intro n
    induction n with
    | zero => intro q hq h; exact ⟨q, fun i hi => by omega, h⟩
    | succ n ih =>
      intro q hq h
      by_cases hall : ∀ i, i < q → a.testBit i = b.testBit i
      · exact ⟨q, hall, h⟩
      · obtain ⟨i, hi⟩ := Classical.not_forall.1 hall
        obtain ⟨hi, hne⟩ := Classical.not_imp.1 hi
        exact ih i (by omega) hne
  exact key q q (Nat.le_refl _) hq
theorem bef_total (a b : Nat) : a = b ∨ bef a b ∨ bef b a := by
  by_cases h : a = b
  · exact .inl h
  · obtain ⟨q, h1, h2⟩ := first_diff h
    right
    cases ha : a.testBit q with
    | false => exact .inl ⟨q, h1, ha, by rw [ha] at h2; cases hb : b.testBit q <;> simp_all⟩
    | true => exact .inr ⟨q, fun i hi => (h1 i hi).symm, by rw [ha] at h2; cases hb : b.testBit q <;> simp_all, ha⟩
theorem bef_of_sub {a b : Nat} (h : SubB a b) : a = b ∨ bef a b := by
  rcases bef_total a b with h1 | h1 | ⟨q, h2, h3, h4⟩
  · exact .inl h1
  · exact .inr h1
  · have := h q h4
    rw [h3] at this; cases this
theorem leastM_iff {m j : Nat} (hj : m.testBit j = true) (h64 : j < 64) : leastM m = j ↔ ∀ i, i < j → m.testBit i = false := by
  have hh : leastM m = ((mem64 m).head?).getD 0 := by rw [leastM]; cases mem64 m <;> rfl
  rw [hh, mem64, List.head?_filter]
  cases hf : (List.range 64).find? (fun i => m.testBit i) with
  | none =>
    rw [List.find?_range_eq_none] at hf
    have := hf j h64
    simp [hj] at this
  | some k =>
    rw [List.find?_range_eq_some] at hf
    obtain ⟨h1, h2, h3⟩ := hf
    simp only [Option.getD_some]
    constructor
    · rintro rfl i hi
      simpa using h3 i hi
    · intro h
      rcases Nat.lt_trichotomy k j with hlt | e | hlt
      · rw [h k hlt] at h1; cases h1
      · exact e
      · have := h3 j hlt
        simp [hj] at this
theorem compl_testBit {x i : Nat} (hx : x < 18446744073709551616) : (18446744073709551615 - x).testBit i = (decide (i < 64) && !x.testBit i) := by
  rw [show 18446744073709551615 - x = 2 ^ 64 - (x + 1) by omega, Nat.testBit_two_pow_sub_succ (by simpa using hx)]
def cand (c : Nat) (ms : List Nat) (a q : Nat) : Nat := clo c ms (a % 2 ^ q ||| 2 ^ q)
def pass (c : Nat) (ms : List Nat) (a q : Nat) : Prop := a.testBit q = false ∧ ∀ i, i < q → (cand c ms a q).testBit i = a.testBit i
theorem mod_or_testBit (a q i : Nat) : (a % 2 ^ q ||| 2 ^ q).testBit i = (decide (i = q) || (decide (i < q) && a.testBit i)) := by
  rw [Nat.testBit_or, Nat.testBit_mod_two_pow, Nat.testBit_two_pow, Bool.or_comm]
  congr 1
  exact decide_eq_decide.2 eq_comm
theorem nextM_mod {c a j : Nat} (ha : a < 2 ^ c) (hc : c < 64) (hj : j < c) : ((a % 2 ^ (j + 1)) &&& (18446744073709551615 - 2 ^ j)) = a % 2 ^ j := by
  have hp : 2 ^ c < 18446744073709551616 := Nat.pow_lt_pow_right (a := 2) (by omega) hc
  apply Nat.eq_of_testBit_eq
  intro i
  have hle : a % 2 ^ (j + 1) ≤ a := Nat.mod_le _ _
  rw [clear_testBit (by omega) (by omega), Nat.testBit_mod_two_pow, Nat.testBit_mod_two_pow]
  by_cases h1 : i < j
  · simp [h1, show i < j + 1 by omega, show ¬ j = i by omega]
  · by_cases h2 : i = j
    · subst h2; simp
    · simp [h1, show ¬ i < j + 1 by omega]
theorem mod_succ_of_not {a j : Nat} (h : a.testBit j = false) : a % 2 ^ (j + 1) = a % 2 ^ j := by
  apply Nat.eq_of_testBit_eq
  intro i
  rw [Nat.testBit_mod_two_pow, Nat.testBit_mod_two_pow]
  by_cases h1 : i < j
  · simp [h1, show i < j + 1 by omega]
  · by_cases h2 : i = j
    · subst h2; simp [h]
    · simp [h1, show ¬ i < j + 1 by omega]
theorem cand_self {c : Nat} {ms : List Nat} (_hr : ms.length ≤ 64) (_hc : c < 64) {a q : Nat} (_ha : a < 2 ^ c) (hq : q < c) : (a % 2 ^ q ||| 2 ^ q) < 2 ^ c := by
  apply lt_pow_of_bits
  intro j hj
  rw [mod_or_testBit] at hj
  simp at hj
  omega
theorem pass_iff {c : Nat} {ms : List Nat} (hr : ms.length ≤ 64) (hc : c < 64) {a q : Nat} (ha : a < 2 ^ c) (hq : q < c) (hb : a.testBit q = false) : leastM (cand c ms a q &&& (18446744073709551615 - a % 2 ^ q)) = q ↔ pass c ms a q := by
  have hp : 2 ^ c < 18446744073709551616 := Nat.pow_lt_pow_right (a := 2) (by omega) hc
  have hle : a % 2 ^ q ≤ a := Nat.mod_le _ _
  have hext : SubB (a % 2 ^ q ||| 2 ^ q) (cand c ms a q) := clo_ext hr (by omega) (cand_self hr hc ha hq)
  have hbit : ∀ i, (cand c ms a q &&& (18446744073709551615 - a % 2 ^ q)).testBit i = ((cand c ms a q).testBit i && (decide (i < 64) && !(decide (i < q) && a.testBit i))) := fun i => by
    rw [Nat.testBit_and, compl_testBit (by omega), Nat.testBit_mod_two_pow]
  have hq1 : (cand c ms a q).testBit q = true := hext q (by rw [mod_or_testBit]; simp)
  rw [leastM_iff (by rw [hbit, hq1]; simp; omega) (by omega)]
  constructor
  · intro h
    refine ⟨hb, fun i hi => ?_⟩
    have h1 := h i hi
    rw [hbit] at h1
    cases hai : a.testBit i with
    | true => exact hext i (by rw [mod_or_testBit]; simp [hi, hai])
    | false =>
      rw [hai] at h1
      simpa [show i < 64 by omega] using h1
  · rintro ⟨_, h⟩ i hi
    rw [hbit, h i hi]
    cases a.testBit i <;> simp [hi]
theorem nextM_mem {c : Nat} {ms : List Nat} (hr : ms.length ≤ 64) (hc : c < 64) {a : Nat} (ha : a < 2 ^ c) : ∀ j, j ≤ c → match nextM c ms j (a % 2 ^ j) with
    | none => ∀ q, q < j → ¬ pass c ms a q
    | some b => ∃ q, q < j ∧ pass c ms a q ∧ b = cand c ms a q ∧ ∀ p, q < p → p < j → ¬ pass c ms a p
  | 0, _ => by simp only [nextM]; intro q hq; omega
  | j + 1, hj => by
    have ih := nextM_mem hr hc ha j (by omega)
    rw [nextM, Nat.testBit_mod_two_pow]
    simp only [show j < j + 1 by omega, decide_true, Bool.true_and]
    by_cases hb : a.testBit j = true
    · rw [if_pos hb, nextM_mod ha hc (by omega)]
      have hno : ¬ pass c ms a j := fun h => by have h1 := h.1; rw [hb] at h1; cases h1
      cases hn : nextM c ms j (a % 2 ^ j) with
      | none =>
        rw [hn] at ih
        intro q hq
        rcases Nat.lt_or_ge q j with h | h
        · exact ih q h
        · obtain rfl : q = j := by omega
          exact hno
      | some b =>
        rw [hn] at ih
        obtain ⟨q, h1, h2, h3, h4⟩ := ih
        refine ⟨q, by omega, h2, h3, fun p hp hpj => ?_⟩
        rcases Nat.lt_or_ge p j with h | h
        · exact h4 p hp h
        · obtain rfl : p = j := by omega
          exact hno
    · have hb' : a.testBit j = false := by simpa using hb
      rw [if_neg hb, mod_succ_of_not hb']
      have hpi := pass_iff hr hc ha (q := j) (by omega) hb'
      rw [cand] at hpi
      by_cases hl : leastM (clo c ms (a % 2 ^ j ||| 2 ^ j) &&& (18446744073709551615 - a % 2 ^ j)) = j
      · rw [if_pos hl]
        exact ⟨j, by omega, hpi.1 hl, rfl, fun p h1 h2 => by omega⟩
      · rw [if_neg hl]
        have hno : ¬ pass c ms a j := fun h => hl (hpi.2 h)
        cases hn : nextM c ms j (a % 2 ^ j) with
        | none =>
          rw [hn] at ih
          intro q hq
          rcases Nat.lt_or_ge q j with h | h
          · exact ih q h
          · obtain rfl : q = j := by omega
            exact hno
        | some b =>
          rw [hn] at ih
          obtain ⟨q, h1, h2, h3, h4⟩ := ih
          refine ⟨q, by omega, h2, h3, fun p hp hpj => ?_⟩
          rcases Nat.lt_or_ge p j with h | h
          · exact h4 p hp h
          · obtain rfl : p = j := by omega
            exact hno
/-- A closed set behind a passes the test where it first differs, and has that candidate as a part. -/
theorem pass_of_bef {c : Nat} {ms : List Nat} (hr : ms.length ≤ 64) (hc : c < 64) {a b q : Nat} (ha : a < 2 ^ c) (hb : clo c ms b = b) (h1 : ∀ i, i < q → a.testBit i = b.testBit i) (h2 : a.testBit q = false) (h3 : b.testBit q = true) : pass c ms a q ∧ SubB (cand c ms a q) b := by
  have hblt : b < 2 ^ c := by rw [← hb]; exact clo_lt hr (by omega) b
  have hq : q < c := bits_of_lt hblt h3
  have hsub : SubB (cand c ms a q) b := by
    have : SubB (a % 2 ^ q ||| 2 ^ q) b := fun i hi => by
      rw [mod_or_testBit] at hi
      simp only [Bool.or_eq_true, decide_eq_true_eq, Bool.and_eq_true] at hi
      rcases hi with rfl | ⟨hi, hai⟩
      · exact h3
      · rw [← h1 i hi]; exact hai
    have := clo_mono (ms := ms) hr (by omega : c ≤ 64) this
    rwa [hb] at this
  refine ⟨⟨h2, fun i hi => ?_⟩, hsub⟩
  cases hai : a.testBit i with
  | true => exact clo_ext hr (by omega) (cand_self hr hc ha hq) i (by rw [mod_or_testBit]; simp [hi, hai])
  | false =>
    cases hci : (cand c ms a q).testBit i with
    | false => rfl
    | true => have := hsub i hci; rw [← h1 i hi, hai] at this; cases this
theorem nextM_none {c : Nat} {ms : List Nat} (hr : ms.length ≤ 64) (hc : c < 64) {a : Nat} (ha : a < 2 ^ c) (h : nextM c ms c a = none) {b : Nat} (hb : clo c ms b = b) : ¬ bef a b := by
  rintro ⟨q, h1, h2, h3⟩
  have hn := nextM_mem (ms := ms) hr hc ha c (Nat.le_refl _)
  rw [Nat.mod_eq_of_lt ha, h] at hn
  have hblt : b < 2 ^ c := by rw [← hb]; exact clo_lt hr (by omega) b
  exact hn q (bits_of_lt hblt h3) (pass_of_bef hr hc ha hb h1 h2 h3).1
theorem nextM_some {c : Nat} {ms : List Nat} (hr : ms.length ≤ 64) (hc : c < 64) {a n : Nat} (ha : a < 2 ^ c) (h : nextM c ms c a = some n) : clo c ms n = n ∧ bef a n ∧ ∀ b, clo c ms b = b → bef a b → b = n ∨ bef n b := by
  have hn := nextM_mem (ms := ms) hr hc ha c (Nat.le_refl _)
  rw [Nat.mod_eq_of_lt ha, h] at hn
  obtain ⟨q, hq, ⟨hpa, hpb⟩, rfl, hlast⟩ := hn
  have hcq : (cand c ms a q).testBit q = true := clo_ext hr (by omega) (cand_self hr hc ha hq) q (by rw [mod_or_testBit]; simp)
  refine ⟨clo_idem hr (by omega) _, ⟨q, fun i hi => (hpb i hi).symm, hpa, hcq⟩, ?_⟩
  rintro b hb ⟨p, h1, h2, h3⟩
  have hblt : b < 2 ^ c := by rw [← hb]; exact clo_lt hr (by omega) b
  obtain ⟨hp, hsub⟩ := pass_of_bef hr hc ha hb h1 h2 h3
  have hpc := bits_of_lt hblt h3
  rcases Nat.lt_trichotomy p q with hlt | rfl | hlt
  · exact .inr ⟨p, fun i hi => (hpb i (by omega)).trans (h1 i hi), by rw [hpb p hlt]; exact h2, h3⟩
  · rcases bef_of_sub hsub with e | e
    · exact .inl e.symm
    · exact .inr e
  · exact absurd hp (hlast p hlt hpc)
/-- THE ENUMERATION: from a on, the ascending list of all closed sets from a on. -/
theorem gen_eq {c : Nat} {ms : List Nat} (hr : ms.length ≤ 64) (hc : c < 64) : ∀ (k a : Nat) (l : List Nat), clo c ms a = a → (a :: l).Pairwise bef → (∀ b, b ∈ a :: l ↔ clo c ms b = b ∧ (b = a ∨ bef a b)) → gen c ms k a = if (a :: l).length ≤ k then some (a :: l) else none
  | 0, a, l, _, _, _ => by simp [gen]
  | k + 1, a, l, ha, hl, hm => by
    have halt : a < 2 ^ c := by rw [← ha]; exact clo_lt hr (by omega) a
    rw [gen]
    cases hn : nextM c ms c a with
    | none =>
      have : l = [] := by
        rcases l with _ | ⟨b, l⟩
        · rfl
        · have hb := (hm b).1 (by simp)
          have hab : bef a b := by have := List.rel_of_pairwise_cons hl (a' := b) (by simp); exact this
          exact absurd hab (nextM_none hr hc halt hn hb.1)
      subst this
      simp
    | some n =>
      obtain ⟨h1, h2, h3⟩ := nextM_some hr hc halt hn
      have hnl : n ∈ l := by
        have := (hm n).2 ⟨h1, .inr h2⟩
        rcases List.mem_cons.1 this with e | e
        · subst e; exact absurd h2 (bef_irrefl _)
        · exact e
      have hl2 := (List.pairwise_cons.1 hl).2
      have hla := (List.pairwise_cons.1 hl).1
      rcases l with _ | ⟨x, t⟩
      · cases hnl
      · have hx : x = n := by
          have hxc := ((hm x).1 (by simp)).1
          rcases h3 x hxc (hla x (by simp)) with e | e
          · exact e
          · rcases List.mem_cons.1 hnl with e' | e'
            · exact e'.symm
            · exact (bef_asymm e ((List.pairwise_cons.1 hl2).1 n e')).elim
        subst hx
        have ih := gen_eq hr hc k x t h1 hl2 (fun b => ⟨fun hb => ⟨((hm b).1 (List.mem_cons_of_mem _ hb)).1, ?_⟩, fun hb => ?_⟩)
        · simp only
          rw [ih]
          by_cases hle : (x :: t).length ≤ k
          · rw [if_pos hle, if_pos (by simp at hle ⊢; omega)]
            rfl
          · rw [if_neg hle, if_neg (by simp at hle ⊢; omega)]
            rfl
        · exact h3 b ((hm b).1 (List.mem_cons_of_mem _ hb)).1 (hla b hb)
        · have hab : bef a b := by
            rcases hb.2 with rfl | h
            · exact h2
            · exact bef_trans h2 h
          rcases List.mem_cons.1 ((hm b).2 ⟨hb.1, .inr hab⟩) with e | e
          · subst e; exact absurd hab (bef_irrefl _)
          · exact e
end Go.Proofs.YtmfiencoefbjfaaGreatDoor
namespace Go.Proofs.YtmfiencoefbjfaaGreatDoor
open Go.RowKit
/-- The lectic order, computed. -/
def befB (a b : Nat) : Bool := match (List.range 64).find? (fun i => a.testBit i != b.testBit i) with
  | some i => b.testBit i
  | none => false
theorem befB_iff {a b : Nat} (_ha : a < 18446744073709551616) (hb : b < 18446744073709551616) : befB a b = true ↔ bef a b := by
  unfold befB
  cases hf : (List.range 64).find? (fun i => a.testBit i != b.testBit i) with
  | none =>
    rw [List.find?_range_eq_none] at hf
    refine ⟨fun h => (by cases h), fun ⟨q, _, h1, h2⟩ => ?_⟩
    have hq : q < 64 := by
      rcases Nat.lt_or_ge q 64 with h | h
      · exact h
      · rw [testBit_big hb h] at h2; cases h2
    have := hf q hq
    rw [h1, h2] at this
    simp at this
  | some k =>
    rw [List.find?_range_eq_some] at hf
    obtain ⟨h1, h2, h3⟩ := hf
    have hpre : ∀ i, i < k → a.testBit i = b.testBit i := fun i hi => by simpa using h3 i hi
    refine ⟨fun h => ⟨k, hpre, ?_, h⟩, fun ⟨q, g1, g2, g3⟩ => ?_⟩
    · simp only at h
      rw [h] at h1
      simpa using h1
    · have e : q = k := by
        rcases Nat.lt_trichotomy q k with h | h | h
        · have := hpre q h; rw [g2, g3] at this; cases this
        · exact h
        · have := g1 k h
          simp [this] at h1
      subst e
      exact g3
def insAt (l : List Nat) (s : Nat) : List Nat := l.takeWhile (fun t => befB t s) ++ s :: l.dropWhile (fun t => befB t s)
theorem mem_insAt (l : List Nat) (s b : Nat) : b ∈ insAt l s ↔ b = s ∨ b ∈ l := by
  have h : b ∈ l ↔ b ∈ l.takeWhile (fun t => befB t s) ∨ b ∈ l.dropWhile (fun t => befB t s) := by
    rw [← List.mem_append, List.takeWhile_append_dropWhile]
  rw [insAt, List.mem_append, List.mem_cons, h]
  constructor
  · rintro (h | h | h)
    · exact .inr (.inl h)
    · exact .inl h
    · exact .inr (.inr h)
  · rintro (h | h | h)
    · exact .inr (.inl h)
    · exact .inl h
    · exact .inr (.inr h)
theorem insAt_sorted : ∀ (l : List Nat) (s : Nat), l.Pairwise bef → s ∉ l → s < 18446744073709551616 → (∀ b ∈ l, b < 18446744073709551616) → (insAt l s).Pairwise bef
  | [], s, _, _, _, _ => by simp [insAt]
  | t :: l, s, hl, hs, hlt, hall => by
    have hp := List.pairwise_cons.1 hl
    have hts : t ≠ s := fun e => hs (by simp [e])
    have ht := hall t (by simp)
    cases hb : befB t s with
    | true =>
      have hbt := (befB_iff ht hlt).1 hb
      have ih := insAt_sorted l s hp.2 (fun h => hs (List.mem_cons_of_mem _ h)) hlt (fun b h => hall b (List.mem_cons_of_mem _ h))
      have e : insAt (t :: l) s = t :: insAt l s := by simp [insAt, hb]
      rw [e, List.pairwise_cons]
      refine ⟨fun b hbm => ?_, ih⟩
      rcases (mem_insAt l s b).1 hbm with rfl | h
      · exact hbt
      · exact hp.1 b h
    | false =>
      have e : insAt (t :: l) s = s :: t :: l := by simp [insAt, hb]
      have hst : bef s t := by
        rcases bef_total t s with h | h | h
        · exact absurd h hts
        · rw [(befB_iff ht hlt).2 h] at hb; cases hb
        · exact h
      rw [e, List.pairwise_cons]
      refine ⟨fun b hbm => ?_, hl⟩
      rcases List.mem_cons.1 hbm with rfl | h
      · exact hst
      · exact bef_trans hst (hp.1 b h)
/-- The closed sets below n, in order. -/
def allN (c : Nat) (ms : List Nat) : Nat → List Nat
  | 0 => []
  | n + 1 => if clo c ms n = n then insAt (allN c ms n) n else allN c ms n
def allC (c : Nat) (ms : List Nat) : List Nat := allN c ms (2 ^ c)
theorem mem_allN (c : Nat) (ms : List Nat) (b : Nat) : ∀ n, b ∈ allN c ms n ↔ b < n ∧ clo c ms b = b
  | 0 => by simp [allN]
  | n + 1 => by
    have ih := mem_allN c ms b n
    rw [allN]
    split
    · rename_i h
      rw [mem_insAt, ih]
      constructor
      · rintro (rfl | h')
        · exact ⟨by omega, h⟩
        · exact ⟨by omega, h'.2⟩
      · rintro ⟨h1, h2⟩
        by_cases e : b = n
        · exact .inl e
        · exact .inr ⟨by omega, h2⟩
    · rename_i h
      rw [ih]
      constructor
      · rintro ⟨h1, h2⟩; exact ⟨by omega, h2⟩
      · rintro ⟨h1, h2⟩
        have : b ≠ n := fun e => h (by rw [← e]; exact h2)
        exact ⟨by omega, h2⟩
theorem allN_sorted (c : Nat) (ms : List Nat) : ∀ n, n ≤ 18446744073709551616 → (allN c ms n).Pairwise bef
  | 0, _ => by simp [allN]
  | n + 1, hn => by
    have ih := allN_sorted c ms n (by omega)
    rw [allN]
    split
    · exact insAt_sorted _ _ ih (fun h => by have := ((mem_allN c ms n n).1 h).1; omega) (by omega) (fun b hb => by have := ((mem_allN c ms b n).1 hb).1; omega)
    · exact ih
theorem insAt_length (l : List Nat) (s : Nat) : (insAt l s).length = l.length + 1 := by
  have := congrArg List.length (List.takeWhile_append_dropWhile (p := fun t => befB t s) (l := l))
  simp only [List.length_append] at this
  simp [insAt]; omega
theorem allN_length (c : Nat) (ms : List Nat) : ∀ n, (allN c ms n).length ≤ n
  | 0 => by simp [allN]
  | n + 1 => by
    have ih := allN_length c ms n
    rw [allN]
    split
    · rw [insAt_length]; omega
    · omega
theorem mem_allC {c : Nat} {ms : List Nat} (hr : ms.length ≤ 64) (hc : c < 64) (b : Nat) : b ∈ allC c ms ↔ clo c ms b = b := by
  rw [allC, mem_allN]
  exact ⟨fun h => h.2, fun h => ⟨by rw [← h]; exact clo_lt hr (by omega) b, h⟩⟩
theorem gen_allC {c : Nat} {ms : List Nat} (hr : ms.length ≤ 64) (hc : c < 64) (most : Nat) : gen c ms most (clo c ms 0) = if (allC c ms).length ≤ most then some (allC c ms) else none := by
  have hp : 2 ^ c < 18446744073709551616 := Nat.pow_lt_pow_right (a := 2) (by omega) hc
  have hs : (allC c ms).Pairwise bef := allN_sorted c ms _ (by omega)
  have h0 : clo c ms (clo c ms 0) = clo c ms 0 := clo_idem hr (by omega) 0
  have hleast : ∀ b, clo c ms b = b → b = clo c ms 0 ∨ bef (clo c ms 0) b := fun b hb => by
    have := clo_mono (ms := ms) hr (by omega : c ≤ 64) (a := 0) (b := b) (fun j hj => by simp at hj)
    rw [hb] at this
    rcases bef_of_sub this with e | e
    · exact .inl e.symm
    · exact .inr e
  have hmem := (mem_allC hr hc (clo c ms 0)).2 h0
  cases hl : allC c ms with
  | nil => rw [hl] at hmem; cases hmem
  | cons a l =>
    rw [hl] at hs hmem
    have ha : a = clo c ms 0 := by
      rcases List.mem_cons.1 hmem with e | e
      · exact e.symm
      · have h1 := (List.pairwise_cons.1 hs).1 _ e
        have h2 := (mem_allC (ms := ms) hr hc a).1 (by rw [hl]; simp)
        rcases hleast a h2 with e' | e'
        · exact e'
        · exact (bef_asymm h1 e').elim
    subst ha
    refine gen_eq hr hc most _ l h0 hs fun b => ?_
    rw [← hl, mem_allC hr hc]
    exact ⟨fun h => ⟨h, hleast b h⟩, fun h => h.1⟩
end Go.Proofs.YtmfiencoefbjfaaGreatDoor
namespace Go.Proofs.YtmfiencoefbjfaaGreatDoor
open Go.RowKit
def pairC (l : List (Nat × Nat)) : List Value := l.flatMap fun p => [.int .i64 (p.1 : Int), .int .i64 (p.2 : Int)]
theorem pairC_append (l l' : List (Nat × Nat)) : pairC (l ++ l') = pairC l ++ pairC l' := by simp [pairC]
end Go.Proofs.YtmfiencoefbjfaaGreatDoor
namespace Go.Proofs.YtmfiencoefbjfaaGreatDoor
open Go.RowKit
def conC (l : List (Nat × Nat)) : List Value := l.flatMap fun p => [.int .u64 (p.1 : Int), .int .u64 (p.2 : Int)]
theorem conC_append (l l' : List (Nat × Nat)) : conC (l ++ l') = conC l ++ conC l' := by simp [conC]
/-- v holds the reference's concepts l. -/
def ConT (X : PMap) (v : Value) (l : List (Nat × Nat)) : Prop := SliceR X v l.length (conC l) ∧ l.length < 1024 ∧ ∀ p ∈ l, p.1 < 18446744073709551616 ∧ p.2 < 18446744073709551616
theorem ConT.mono {X X' : PMap} {v : Value} {l : List (Nat × Nat)} (h : ConT X v l) (hX : X.le X') : ConT X' v l := ⟨h.1.mono hX, h.2⟩
end Go.Proofs.YtmfiencoefbjfaaGreatDoor
namespace Go.Proofs.YtmfiencoefbjfaaGreatDoor
open Go.RowKit
end Go.Proofs.YtmfiencoefbjfaaGreatDoor
namespace Go.Proofs.YtmfiencoefbjfaaGreatDoor
open Go.RowKit
/-- The concepts of closed sets. -/
def conL (c : Nat) (ms : List Nat) (l : List Nat) : List (Nat × Nat) := l.map fun a => (hav c ms a, a)
def allR (c : Nat) (ms : List Nat) : List (Nat × Nat) := conL c ms (allC c ms)
theorem conL_length (c : Nat) (ms l : List Nat) : (conL c ms l).length = l.length := by simp [conL]
theorem conC_take (l : List (Nat × Nat)) : ∀ k, (conC l).take (k * 2) = conC (l.take k) := by
  induction l with
  | nil => intro k; simp [conC]
  | cons p l ih =>
    intro k
    cases k with
    | zero => simp [conC]
    | succ k =>
      have e : conC (p :: l) = .int .u64 (p.1 : Int) :: .int .u64 (p.2 : Int) :: conC l := rfl
      rw [e, show (k + 1) * 2 = k * 2 + 1 + 1 by omega, List.take_succ_cons, List.take_succ_cons, ih]
      rfl
theorem conC_drop (l : List (Nat × Nat)) : ∀ k, (conC l).drop (k * 2) = conC (l.drop k) := by
  induction l with
  | nil => intro k; simp [conC]
  | cons p l ih =>
    intro k
    cases k with
    | zero => simp [conC]
    | succ k =>
      have e : conC (p :: l) = .int .u64 (p.1 : Int) :: .int .u64 (p.2 : Int) :: conC l := rfl
      rw [e, show (k + 1) * 2 = k * 2 + 1 + 1 by omega, List.drop_succ_cons, List.drop_succ_cons, ih]
      rfl
theorem conL_ins {c : Nat} {ms l : List Nat} {s k : Nat} : conC (conL c ms (l.take k ++ s :: l.drop k)) = (conC (conL c ms l)).take (k * 2) ++ ([.int .u64 (hav c ms s : Int), .int .u64 (s : Int)] ++ (conC (conL c ms l)).drop (k * 2)) := by
  rw [conC_take, conC_drop]
  simp [conL, conC_append]
  rw [show ∀ (p : Nat × Nat) (r : List (Nat × Nat)), conC (p :: r) = [.int .u64 (p.1 : Int), .int .u64 (p.2 : Int)] ++ conC r from fun _ _ => rfl]
  simp
theorem allR_small {c : Nat} {ms : List Nat} (hr : ms.length < 64) (hc : c < 6) : (allR c ms).length ≤ 2 ^ c ∧ 2 ^ c ≤ 32 ∧ ∀ p ∈ allR c ms, p.1 < 18446744073709551616 ∧ p.2 < 18446744073709551616 := by
  have h5 : 2 ^ c ≤ 2 ^ 5 := Nat.pow_le_pow_right (by omega) (by omega)
  have hr2 : 2 ^ ms.length < 18446744073709551616 := Nat.pow_lt_pow_right (a := 2) (by omega) hr
  refine ⟨by rw [allR, conL_length]; exact allN_length c ms _, by omega, fun p hp => ?_⟩
  simp only [allR, conL, List.mem_map] at hp
  obtain ⟨a, ha, rfl⟩ := hp
  have h1 := hav_lt (c := c) (ms := ms) (by omega) (by omega) a
  have h2 := ((mem_allN c ms a _).1 ha).1
  exact ⟨Nat.lt_trans h1 hr2, by simp only; omega⟩
theorem newRow {X : PMap} {c cap b : Nat} {ms L : List Nat} {s k : Nat} (hk : k ≤ L.length) (hB : Blk X b (([] ++ (conC (conL c ms L)).take (k * 2)) ++ ([.int .u64 (hav c ms s : Int), .int .u64 (s : Int)] ++ (conC (conL c ms L)).drop (k * 2)))) (_h : 0 < L.length + 1) :
    SliceR X (.slice (some ⟨b, 0, none⟩) (L.take k ++ s :: L.drop k).length cap) (L.take k ++ s :: L.drop k).length (conC (conL c ms (L.take k ++ s :: L.drop k))) := by
  refine .inr ⟨by simp; omega, b, cap, rfl, ?_⟩
  rw [conL_ins]
  simpa using hB
end Go.Proofs.YtmfiencoefbjfaaGreatDoor
namespace Go.Proofs.YtmfiencoefbjfaaGreatDoor
open Go.RowKit
def conF (c : Nat) (ms : List Nat) : List (Nat × Nat) := (allR c ms).filter fun p => !decide (p.1 = 0) && !decide (p.2 = 0)
theorem nodup_len : ∀ {l l' : List Nat}, l.Nodup → (∀ x ∈ l, x ∈ l') → l.length ≤ l'.length
  | [], _, _, _ => Nat.zero_le _
  | a :: l, l', h, hs => by
    obtain ⟨h1, h2⟩ := List.nodup_cons.1 h
    have ha := hs a (by simp)
    have := nodup_len (l' := l'.erase a) h2 fun x hx => (List.mem_erase_of_ne (by rintro rfl; exact h1 hx)).2 (hs x (by simp [hx]))
    rw [List.length_erase_of_mem ha] at this
    have := List.length_pos_of_mem ha
    rw [List.length_cons]
    omega
theorem few_tab : ((List.range 32).all fun row => (List.range 5).all fun j => decide (((List.range 32).filter fun B => B.testBit j && (B &&& row == B)).length ≤ 16) && (row == 31 || decide (((List.range 32).filter fun B => B.testBit j && (B &&& row == B)).length ≤ 8))) = true := by decide +kernel
section
variable {c : Nat} {ms : List Nat} (hr : ms.length < 6) (hc : c < 6) (hms : ∀ m ∈ ms, m < 2 ^ c)
include hr hc
theorem mem_conF {p : Nat × Nat} (h : p ∈ conF c ms) : p.1 = hav c ms p.2 ∧ clo c ms p.2 = p.2 ∧ p.1 ≠ 0 ∧ p.2 ≠ 0 := by
  simp only [conF, List.mem_filter, allR, conL, List.mem_map] at h
  obtain ⟨⟨a, ha, rfl⟩, h2⟩ := h
  have h1 := (mem_allC (by omega) (by omega) a).1 ha
  simp only [Bool.and_eq_true, Bool.not_eq_true', decide_eq_false_iff_not] at h2
  exact ⟨rfl, h1, h2.1, h2.2⟩
theorem conF_mem {a : Nat} (h : clo c ms a = a) (h1 : hav c ms a ≠ 0) (h2 : a ≠ 0) : (hav c ms a, a) ∈ conF c ms := by
  simp only [conF, List.mem_filter, allR, conL, List.mem_map]
  exact ⟨⟨a, (mem_allC (by omega) (by omega) a).2 h, rfl⟩, by simp [h1, h2]⟩
theorem conF_lt {p : Nat × Nat} (h : p ∈ conF c ms) : p.1 < 2 ^ ms.length ∧ p.2 < 2 ^ c := by
  obtain ⟨h1, h2, _⟩ := mem_conF hr hc h
  rw [h1]
  exact ⟨hav_lt (by omega) (by omega) _, by rw [← h2]; exact clo_lt (by omega) (by omega) _⟩
theorem conF_rect {p : Nat × Nat} (h : p ∈ conF c ms) {i j : Nat} (hi : p.1.testBit i = true) (hj : p.2.testBit j = true) : Rel ms i j = true := by
  obtain ⟨h1, _⟩ := mem_conF hr hc h
  rw [h1] at hi
  exact ((hav_iff c ms _ i (by omega)).1 hi).2 j (bits_of_lt (conF_lt hr hc h).2 hj) hj
omit hr in
theorem pow6 : 2 ^ c ≤ 32 := Nat.le_trans (Nat.pow_le_pow_right (n := 2) (by omega) (show c ≤ 5 by omega)) (by decide)
omit hr in
theorem conF_nodup : (conF c ms).Pairwise fun p q => p.2 ≠ q.2 := by
  refine List.Pairwise.filter _ ?_
  rw [allR, conL, List.pairwise_map]
  exact (allN_sorted c ms (2 ^ c) (by have := pow6 hc; omega)).imp fun h e => by
    simp only at e
    subst e
    exact bef_irrefl _ h
theorem around_len (i j fr : Nat) : (aroundM (conF c ms) i j fr).length ≤ ((List.range 32).filter fun B => B.testBit j && (B &&& ms.getD i 0 == B)).length := by
  have h1 : ((aroundM (conF c ms) i j fr).map fun k => ((conF c ms).getD k (0, 0)).2).Nodup := by
    rw [List.nodup_iff_pairwise_ne, List.pairwise_map]
    have hlt : (aroundM (conF c ms) i j fr).Pairwise (· < ·) := List.Pairwise.filter _ List.pairwise_lt_range
    refine (List.pairwise_of_forall_mem_list (r := fun a b => a < (conF c ms).length ∧ b < (conF c ms).length) (fun a ha b hb => ⟨(mem_around.1 ha).1, (mem_around.1 hb).1⟩)).imp₂ (fun a b h hab => ?_) hlt
    obtain ⟨ha, hb⟩ := h
    rw [List.getD_eq_getElem?_getD, List.getD_eq_getElem?_getD, List.getElem?_eq_getElem ha, List.getElem?_eq_getElem hb]
    exact List.pairwise_iff_getElem.1 (conF_nodup hc) a b ha hb hab
  have h2 := nodup_len (l' := (List.range 32).filter fun B => B.testBit j && (B &&& ms.getD i 0 == B)) h1 fun B hB => by
    obtain ⟨k, hk, rfl⟩ := List.mem_map.1 hB
    obtain ⟨g1, _, g3⟩ := mem_around.1 hk
    have hm : (conF c ms).getD k (0, 0) ∈ conF c ms := by rw [List.getD_eq_getElem?_getD, List.getElem?_eq_getElem g1]; exact List.getElem_mem g1
    rw [hasC, Bool.and_eq_true] at g3
    generalize (conF c ms).getD k (0, 0) = p at *
    have := pow6 hc
    rw [List.mem_filter, List.mem_range]
    refine ⟨by have := (conF_lt hr hc hm).2; omega, ?_⟩
    rw [g3.2, Bool.true_and, beq_iff_eq]
    refine Nat.eq_of_testBit_eq fun q => ?_
    rw [Nat.testBit_and]
    cases hq : p.2.testBit q with
    | false => rfl
    | true => exact conF_rect hr hc hm g3.1 hq
  rwa [List.length_map] at h2
include hms
omit hr in
theorem row32 (i : Nat) : ms.getD i 0 < 32 := by
  have := pow6 hc
  rw [List.getD_eq_getElem?_getD]
  cases h : ms[i]? with
  | none => simp
  | some m => have := hms m (List.mem_of_getElem? h); simp; omega
/-- Is row i full? -/
def bigF (c : Nat) (ms : List Nat) (i j : Nat) : Prop := i < ms.length ∧ j < c ∧ ms.getD i 0 = 2 ^ c - 1
omit hms in
theorem allC_last : ∃ s, allC c ms = s ++ [2 ^ c - 1] := by
  have hf : clo c ms (2 ^ c - 1) = 2 ^ c - 1 := by
    have h1 := clo_ext (c := c) (ms := ms) (by omega) (by omega) (s := 2 ^ c - 1) (by have := Nat.two_pow_pos c; omega)
    refine SubB.antisymm (fun j hj => ?_) h1
    have := bits_of_lt (clo_lt (by omega) (by omega) _) hj
    simp [Nat.testBit_two_pow_sub_one, this]
  obtain ⟨s, t, e⟩ := List.append_of_mem ((mem_allC (by omega) (by omega) _).2 hf)
  have hs := allN_sorted c ms (2 ^ c) (by have := pow6 hc; omega)
  have : t = [] := by
    cases t with
    | nil => rfl
    | cons x t =>
      exfalso
      have hx : x ∈ allC c ms := by rw [e]; simp
      have hx2 := (mem_allC (by omega) (by omega) _).1 hx
      have hx3 : x < 2 ^ c := by rw [← hx2]; exact clo_lt (by omega) (by omega) _
      rw [show allN c ms (2 ^ c) = s ++ (2 ^ c - 1) :: x :: t from e] at hs
      have hb : bef (2 ^ c - 1) x := (List.pairwise_cons.1 (List.pairwise_append.1 hs).2.1).1 x (by simp)
      rcases bef_of_sub (a := x) (b := 2 ^ c - 1) (fun j hj => by simp [Nat.testBit_two_pow_sub_one, bits_of_lt hx3 hj]) with h | h
      · rw [h] at hb; exact bef_irrefl _ hb
      · exact bef_asymm hb h
  subst this
  exact ⟨s, e⟩
theorem conF_few : Few (conF c ms) (bigF c ms) where
  lt p hp := by have := (conF_lt hr hc hp).2; have := pow6 hc; omega
  all16 i j fr := by
    have h1 := around_len hr hc (ms := ms) i j fr
    have hrow := row32 hc hms i
    rcases Nat.lt_or_ge j 5 with hj | hj
    · have h2 := List.all_eq_true.1 (List.all_eq_true.1 few_tab _ (List.mem_range.2 hrow)) j (List.mem_range.2 hj)
      rw [Bool.and_eq_true, decide_eq_true_eq] at h2
      omega
    · have : ((List.range 32).filter fun B => B.testBit j && (B &&& ms.getD i 0 == B)) = [] := List.filter_eq_nil_iff.2 fun B hB => by
        rw [Nat.testBit_lt_two_pow (Nat.lt_of_lt_of_le (List.mem_range.1 hB) (show 2 ^ 5 ≤ 2 ^ j from Nat.pow_le_pow_right (by omega) hj))]
        simp
      rw [this] at h1
      simp at h1
      simp [h1]
  many i j fr h := by
    have h1 := around_len hr hc (ms := ms) i j fr
    have hrow := row32 hc hms i
    have hne : aroundM (conF c ms) i j fr ≠ [] := fun e => by rw [e] at h; simp at h
    obtain ⟨k, hk⟩ := List.exists_mem_of_ne_nil _ hne
    obtain ⟨g1, _, g3⟩ := mem_around.1 hk
    have hm : (conF c ms).getD k (0, 0) ∈ conF c ms := by rw [List.getD_eq_getElem?_getD, List.getElem?_eq_getElem g1]; exact List.getElem_mem g1
    rw [hasC, Bool.and_eq_true] at g3
    have hl := conF_lt hr hc hm
    have hi := bits_of_lt hl.1 g3.1
    have hj := bits_of_lt hl.2 g3.2
    have h2 := List.all_eq_true.1 (List.all_eq_true.1 few_tab _ (List.mem_range.2 hrow)) j (List.mem_range.2 (by omega))
    rw [Bool.and_eq_true, Bool.or_eq_true, decide_eq_true_eq, decide_eq_true_eq, beq_iff_eq] at h2
    have h31 : ms.getD i 0 = 31 := by omega
    refine ⟨hi, hj, ?_⟩
    have hlt : ms.getD i 0 < 2 ^ c := by
      rw [List.getD_eq_getElem?_getD, List.getElem?_eq_getElem hi]
      exact hms _ (List.getElem_mem hi)
    have : c = 5 := by
      rcases Nat.lt_or_ge c 5 with h5 | h5
      · have : 2 ^ c ≤ 2 ^ 4 := Nat.pow_le_pow_right (by omega) (by omega)
        omega
      · omega
    rw [h31, this]
  last i j hb _ := by
    obtain ⟨hi, hj, hrow⟩ := hb
    obtain ⟨s, hs⟩ := allC_last hr hc
    have hbit : ∀ q, q < c → (2 ^ c - 1).testBit q = true := fun q hq => by simp [Nat.testBit_two_pow_sub_one, hq]
    have hh : (hav c ms (2 ^ c - 1)).testBit i = true := (hav_iff c ms _ i (by omega)).2 ⟨hi, fun q hq _ => by rw [Rel, hrow]; exact hbit q hq⟩
    have h1 : hav c ms (2 ^ c - 1) ≠ 0 := fun e => by rw [e] at hh; simp at hh
    have h2 : 2 ^ c - 1 ≠ 0 := fun e => by have := hbit j hj; rw [e] at this; simp at this
    have e : conF c ms = (conL c ms s).filter (fun p => !decide (p.1 = 0) && !decide (p.2 = 0)) ++ [(hav c ms (2 ^ c - 1), 2 ^ c - 1)] := by
      rw [conF, allR, hs, conL, List.map_append, List.filter_append]
      simp [h1, h2, conL]
    rw [e, hasC, List.length_append, List.length_singleton, Nat.add_sub_cancel, List.getD_eq_getElem?_getD, List.getElem?_append_right (Nat.le_refl _)]
    simp [hh, hbit j hj]
omit hms
theorem row_con (i : Nat) (hi : i < ms.length) (j : Nat) (hij : Rel ms i j = true) (hlt : ms.getD i 0 < 2 ^ c) : ∃ k, k < (conF c ms).length ∧ ∀ j, Rel ms i j = true → hasC (conF c ms) k i j = true := by
  have hcl : clo c ms (clo c ms (ms.getD i 0)) = clo c ms (ms.getD i 0) := clo_idem (by omega) (by omega) _
  have hsub := clo_ext (c := c) (ms := ms) (by omega) (by omega) hlt
  have hh : (hav c ms (clo c ms (ms.getD i 0))).testBit i = true := by
    rw [hav_clo (by omega) (by omega) _ hlt]
    exact (hav_iff c ms _ i (by omega)).2 ⟨hi, fun q _ h => h⟩
  have hm := conF_mem hr hc hcl (fun e => by rw [e] at hh; simp at hh) (fun e => by have := hsub j hij; rw [e] at this; simp at this)
  obtain ⟨k, hk, e⟩ := List.getElem_of_mem hm
  refine ⟨k, hk, fun q hq => ?_⟩
  rw [hasC, List.getD_eq_getElem?_getD, List.getElem?_eq_getElem hk, Option.getD_some, e]
  exact Bool.and_eq_true _ _ ▸ ⟨hh, hsub q hq⟩
include hms
/-- As many concepts as rows cover all. -/
theorem cov_rows : cov (conF c ms) ms ms.length 0 := by
  have key : ∀ n, n ≤ ms.length → ∃ ks : List Nat, ks.length ≤ n ∧ (∀ k ∈ ks, k < (conF c ms).length) ∧ ∀ i j, i < n → Rel ms i j = true → ∃ k ∈ ks, hasC (conF c ms) k i j = true := by
    intro n
    induction n with
    | zero => intro _; exact ⟨[], by simp, by simp, fun i j h => by omega⟩
    | succ n ih =>
      intro hn
      obtain ⟨ks, h1, h2, h3⟩ := ih (by omega)
      have hlt : ms.getD n 0 < 2 ^ c := by
        rw [List.getD_eq_getElem?_getD, List.getElem?_eq_getElem (by omega)]
        exact hms _ (List.getElem_mem _)
      by_cases hz : ∃ j, Rel ms n j = true
      · obtain ⟨j, hj⟩ := hz
        obtain ⟨k, hk, hk2⟩ := row_con hr hc n (by omega) j hj hlt
        refine ⟨k :: ks, by simp; omega, fun k' hk' => ?_, fun i q hi hq => ?_⟩
        · rcases List.mem_cons.1 hk' with rfl | hk'
          · exact hk
          · exact h2 k' hk'
        · rcases Nat.lt_or_ge i n with h | h
          · obtain ⟨k', g1, g2⟩ := h3 i q h hq
            exact ⟨k', by simp [g1], g2⟩
          · obtain rfl : i = n := by omega
            exact ⟨k, by simp, hk2 q hq⟩
      · refine ⟨ks, by omega, h2, fun i q hi hq => ?_⟩
        rcases Nat.lt_or_ge i n with h | h
        · exact h3 i q h hq
        · obtain rfl : i = n := by omega
          exact absurd ⟨q, hq⟩ hz
  obtain ⟨ks, h1, h2, h3⟩ := key ms.length (Nat.le_refl _)
  refine ⟨ks, h1, fun k hk => ⟨Nat.zero_le _, h2 k hk⟩, fun i j hij => ?_⟩
  rcases Nat.lt_or_ge i ms.length with h | h
  · exact h3 i j h hij
  · rw [inO, List.getD_eq_getElem?_getD, List.getElem?_eq_none h] at hij
    simp at hij
end
end Go.Proofs.YtmfiencoefbjfaaGreatDoor
namespace Go.Proofs.YtmfiencoefbjfaaGreatDoor
open Go.RowKit
def sizeK (o : List Nat) (k : Nat) : Nat := sizeM (o.take k)
theorem sizeK_succ {o : List Nat} {k : Nat} (h : k < o.length) : sizeK o (k + 1) = sizeK o k + (mem64 o[k]).length := by
  unfold sizeK sizeM
  rw [List.take_succ_eq_append_getElem h, List.map_append, List.sum_append]
  simp
theorem sizeK_le (o : List Nat) (k : Nat) : sizeK o k ≤ 64 * k := by
  have h : ∀ l : List Nat, sizeM l ≤ 64 * l.length := by
    intro l
    unfold sizeM
    induction l with
    | nil => simp
    | cons s l ih =>
      have := mem64_length s
      rw [List.map_cons, List.sum_cons, List.length_cons]
      omega
  have := h (o.take k)
  rw [List.length_take] at this
  have : 64 * min k o.length ≤ 64 * k := Nat.mul_le_mul_left _ (Nat.min_le_left _ _)
  unfold sizeK
  omega
def gainK (o : List Nat) (p : Nat × Nat) (k : Nat) : Nat := gainL o p ((mem64 p.1).take k)
theorem gainK_succ {o : List Nat} {p : Nat × Nat} {k : Nat} (h : k < (mem64 p.1).length) : gainK o p (k + 1) = gainK o p k + (mem64 (o.getD (mem64 p.1)[k] 0 &&& p.2)).length := by
  unfold gainK gainL
  rw [List.take_succ_eq_append_getElem h, List.map_append, List.sum_append]
  simp
theorem gainL_le (o : List Nat) (p : Nat × Nat) (l : List Nat) : gainL o p l ≤ 64 * l.length := by
  unfold gainL
  induction l with
  | nil => simp
  | cons s l ih =>
    have := mem64_length (o.getD s 0 &&& p.2)
    rw [List.map_cons, List.sum_cons, List.length_cons]
    omega
theorem gainK_le (o : List Nat) (p : Nat × Nat) (k : Nat) : gainK o p k ≤ 4096 := by
  have h := gainL_le o p ((mem64 p.1).take k)
  have h2 := mem64_length p.1
  rw [List.length_take] at h
  have : 64 * min k (mem64 p.1).length ≤ 64 * 64 := Nat.mul_le_mul_left _ (Nat.le_trans (Nat.min_le_right _ _) h2)
  unfold gainK
  omega
def mostK (L : List (Nat × Nat)) (o : List Nat) (k : Nat) : Nat := mostM (L.take k) o
theorem mostK_succ {L : List (Nat × Nat)} {o : List Nat} {k : Nat} (h : k < L.length) : mostK L o (k + 1) = max (mostK L o k) (gainM o L[k]) := by
  unfold mostK mostM
  rw [List.take_succ_eq_append_getElem h, List.map_append, List.foldl_append]
  simp
theorem mostK_le (L : List (Nat × Nat)) (o : List Nat) (k : Nat) : mostK L o k ≤ 4096 := by
  have : ∀ (l : List Nat) (a : Nat), a ≤ 4096 → (∀ x ∈ l, x ≤ 4096) → l.foldl max a ≤ 4096 := by
    intro l
    induction l with
    | nil => intro a h _; exact h
    | cons x l ih => intro a h hl; exact ih _ (Nat.max_le.2 ⟨h, hl x (by simp)⟩) fun y hy => hl y (by simp [hy])
  refine this _ _ (Nat.zero_le _) fun x hx => ?_
  obtain ⟨p, _, rfl⟩ := List.mem_map.1 hx
  have h := gainL_le o p (mem64 p.1)
  have h2 := mem64_length p.1
  have : 64 * (mem64 p.1).length ≤ 64 * 64 := Nat.mul_le_mul_left _ h2
  unfold gainM
  omega
/-- What is taken away, row by row. -/
def withoutK (o : List Nat) (p : Nat × Nat) (k : Nat) : List Nat := ((mem64 p.1).take k).foldl (fun o i => o.set i (minB (o.getD i 0) p.2)) o
theorem withoutK_succ {o : List Nat} {p : Nat × Nat} {k : Nat} (h : k < (mem64 p.1).length) : withoutK o p (k + 1) = (withoutK o p k).set (mem64 p.1)[k] (minB ((withoutK o p k).getD (mem64 p.1)[k] 0) p.2) := by
  unfold withoutK
  rw [List.take_succ_eq_append_getElem h, List.foldl_append]
  rfl
theorem withoutK_len (o : List Nat) (p : Nat × Nat) (k : Nat) : (withoutK o p k).length = o.length := by
  unfold withoutK
  generalize (mem64 p.1).take k = l
  induction l generalizing o with
  | nil => rfl
  | cons a l ih => rw [List.foldl_cons, ih]; simp
theorem foldl_set_get (t : Nat) : ∀ (l : List Nat) (o : List Nat), l.Nodup → ∀ i, i < o.length → (l.foldl (fun o i => o.set i (minB (o.getD i 0) t)) o).getD i 0 = if i ∈ l then minB (o.getD i 0) t else o.getD i 0
  | [], o, _, i, _ => by simp
  | a :: l, o, h, i, hi => by
    obtain ⟨h1, h2⟩ := List.nodup_cons.1 h
    rw [List.foldl_cons, foldl_set_get t l _ h2 i (by simpa using hi)]
    by_cases e : i = a
    · subst e
      rw [if_neg h1, if_pos (by simp), List.getD_eq_getElem?_getD, List.getElem?_set_self hi]
      rfl
    · rw [List.getD_eq_getElem?_getD, List.getElem?_set_ne (Ne.symm e), ← List.getD_eq_getElem?_getD]
      simp [e]
theorem withoutK_all {o : List Nat} {p : Nat × Nat} (hl : o.length ≤ 64) : withoutK o p (mem64 p.1).length = withoutM o p := by
  have hlen := withoutK_len o p (mem64 p.1).length
  refine List.ext_getElem (by rw [hlen, without_len]) fun i h1 h2 => ?_
  have hi : i < o.length := by omega
  have h := foldl_set_get p.2 (mem64 p.1) o (List.Pairwise.filter _ List.nodup_range) i hi
  have e : withoutK o p (mem64 p.1).length = (mem64 p.1).foldl (fun o i => o.set i (minB (o.getD i 0) p.2)) o := by unfold withoutK; rw [List.take_length]
  rw [← e, List.getD_eq_getElem?_getD, List.getElem?_eq_getElem h1, Option.getD_some] at h
  rw [h]
  simp only [withoutM, List.getElem_mapIdx]
  have hm : i ∈ mem64 p.1 ↔ p.1.testBit i = true := by rw [mem_mem64]; exact ⟨fun h => h.2, fun h => ⟨by omega, h⟩⟩
  have hg : o.getD i 0 = o[i] := by simp [hi]
  rw [hg]
  by_cases hb : p.1.testBit i = true
  · rw [if_pos (hm.2 hb), if_pos hb]
  · rw [if_neg (fun h => hb (hm.1 h)), if_neg hb]
/-- The numbers of the rectangles around a cell, up to k. -/
def aroundK (L : List (Nat × Nat)) (i j fr k : Nat) : List Nat := (List.range k).filter fun k => decide (fr ≤ k) && hasC L k i j
theorem aroundK_start (L : List (Nat × Nat)) (i j fr : Nat) : aroundK L i j fr fr = [] := by
  unfold aroundK
  rw [List.filter_eq_nil_iff]
  intro k hk
  have := List.mem_range.1 hk
  simp; omega
theorem aroundK_succ {L : List (Nat × Nat)} {i j fr k : Nat} (h : fr ≤ k) : aroundK L i j fr (k + 1) = if hasC L k i j then aroundK L i j fr k ++ [k] else aroundK L i j fr k := by
  unfold aroundK
  rw [List.range_succ, List.filter_append, List.filter_cons]
  simp only [h, decide_true, Bool.true_and, List.filter_nil]
  split <;> simp
theorem aroundK_len (L : List (Nat × Nat)) (i j fr k : Nat) : (aroundK L i j fr k).length ≤ k := by
  have := List.length_filter_le (fun k => decide (fr ≤ k) && hasC L k i j) (List.range k)
  simpa [aroundK] using this
theorem aroundM_over {L : List (Nat × Nat)} {i j fr : Nat} (h : L.length ≤ fr) : aroundM L i j fr = [] := by
  unfold aroundM
  rw [List.filter_eq_nil_iff]
  intro k hk
  have := List.mem_range.1 hk
  simp; omega
/-- The cells that have been looked at: rows before i, and q cells of row i. -/
def seen (o : List Nat) (i q a b : Nat) : Prop := inO o a b = true ∧ (a < i ∨ a = i ∧ b ∈ (mem64 (o.getD i 0)).take q)
/-- The best cell so far. -/
def bestC (L : List (Nat × Nat)) (o : List Nat) (fr i q : Nat) : Option (Nat × Nat) → Prop
  | none => ∀ a b, ¬ seen o i q a b
  | some (r, c) => inO o r c = true ∧ ∀ a b, seen o i q a b → (aroundM L r c fr).length ≤ (aroundM L a b fr).length
theorem inO_lt64 {o : List Nat} (ho : Wds o) {i j : Nat} (h : inO o i j = true) : j < 64 := by
  unfold inO at h
  rcases Nat.lt_or_ge j 64 with h1 | h1
  · exact h1
  · rw [List.getD_eq_getElem?_getD] at h
    cases hh : o[i]? with
    | none => rw [hh] at h; simp at h
    | some s =>
      have hs := ho s (List.mem_of_getElem? hh)
      rw [hh, Option.getD_some, Nat.testBit_lt_two_pow (Nat.lt_of_lt_of_le hs (Nat.pow_le_pow_right (n := 2) (by omega) h1))] at h
      cases h
theorem seen_row {o : List Nat} (ho : Wds o) {i a b : Nat} : seen o (i + 1) 0 a b ↔ seen o i (mem64 (o.getD i 0)).length a b := by
  unfold seen
  rw [List.take_length]
  constructor
  · rintro ⟨h, h1 | ⟨_, h2⟩⟩
    · rcases Nat.lt_or_ge a i with h3 | h3
      · exact ⟨h, .inl h3⟩
      · obtain rfl : a = i := by omega
        exact ⟨h, .inr ⟨rfl, mem_mem64.2 ⟨inO_lt64 ho h, h⟩⟩⟩
    · simp at h2
  · rintro ⟨h, h1 | ⟨rfl, _⟩⟩
    · exact ⟨h, .inl (by omega)⟩
    · exact ⟨h, .inl (by omega)⟩
theorem seen_step {o : List Nat} {i q a b : Nat} (hq : q < (mem64 (o.getD i 0)).length) : seen o i (q + 1) a b ↔ seen o i q a b ∨ a = i ∧ b = (mem64 (o.getD i 0))[q] := by
  unfold seen
  rw [List.take_succ_eq_append_getElem hq]
  constructor
  · rintro ⟨h, h1 | ⟨h1, h2⟩⟩
    · exact .inl ⟨h, .inl h1⟩
    · rcases List.mem_append.1 h2 with h3 | h3
      · exact .inl ⟨h, .inr ⟨h1, h3⟩⟩
      · exact .inr ⟨h1, by simpa using h3⟩
  · rintro (⟨h, h1 | ⟨h1, h2⟩⟩ | ⟨rfl, rfl⟩)
    · exact ⟨h, .inl h1⟩
    · exact ⟨h, .inr ⟨h1, List.mem_append_left _ h2⟩⟩
    · exact ⟨(mem_mem64.1 (List.getElem_mem hq)).2, .inr ⟨rfl, List.mem_append_right _ (List.mem_singleton.2 rfl)⟩⟩
theorem bestC_row {L : List (Nat × Nat)} {o : List Nat} (ho : Wds o) {fr i : Nat} {st : Option (Nat × Nat)} (h : bestC L o fr i (mem64 (o.getD i 0)).length st) : bestC L o fr (i + 1) 0 st := by
  cases st with
  | none => exact fun a b hs => h a b ((seen_row ho).1 hs)
  | some p => exact ⟨h.1, fun a b hs => h.2 a b ((seen_row ho).1 hs)⟩
theorem bestC_new {L : List (Nat × Nat)} {o : List Nat} {fr i q : Nat} {st : Option (Nat × Nat)} (hq : q < (mem64 (o.getD i 0)).length) (h : bestC L o fr i q st)
    (hb : ∀ r c, st = some (r, c) → (aroundM L i (mem64 (o.getD i 0))[q] fr).length < (aroundM L r c fr).length) : bestC L o fr i (q + 1) (some (i, (mem64 (o.getD i 0))[q])) := by
  refine ⟨(mem_mem64.1 (List.getElem_mem hq)).2, fun a b hs => ?_⟩
  rcases (seen_step hq).1 hs with h1 | ⟨rfl, rfl⟩
  · cases st with
    | none => exact absurd h1 (h a b)
    | some p =>
      have := h.2 a b h1
      have := hb p.1 p.2 rfl
      omega
  · exact Nat.le_refl _
theorem bestC_old {L : List (Nat × Nat)} {o : List Nat} {fr i q : Nat} {r c : Nat} (hq : q < (mem64 (o.getD i 0)).length) (h : bestC L o fr i q (some (r, c)))
    (hb : (aroundM L r c fr).length ≤ (aroundM L i (mem64 (o.getD i 0))[q] fr).length) : bestC L o fr i (q + 1) (some (r, c)) := by
  refine ⟨h.1, fun a b hs => ?_⟩
  rcases (seen_step hq).1 hs with h1 | ⟨rfl, rfl⟩
  · exact h.2 a b h1
  · exact hb
theorem bestC_start {L : List (Nat × Nat)} {o : List Nat} {fr : Nat} : bestC L o fr 0 0 none := fun a b hs => by
  obtain ⟨_, h | ⟨_, h⟩⟩ := hs
  · omega
  · simp at h
/-- At the end, if there is an uncovered one, the best cell is one with the fewest rectangles. -/
theorem bestC_end {L : List (Nat × Nat)} {o : List Nat} {fr : Nat} {st : Option (Nat × Nat)} (ho : Wds o) (h : bestC L o fr o.length 0 st) (hz : sizeM o ≠ 0) : ∃ r c, st = some (r, c) ∧ inO o r c = true ∧ ∀ a b, inO o a b = true → (aroundM L r c fr).length ≤ (aroundM L a b fr).length := by
  have hs : ∀ a b, inO o a b = true → seen o o.length 0 a b := fun a b hab => ⟨hab, .inl (by
    rcases Nat.lt_or_ge a o.length with h | h
    · exact h
    · unfold inO at hab
      rw [List.getD_eq_getElem?_getD, List.getElem?_eq_none h] at hab
      simp at hab)⟩
  cases st with
  | none =>
    exfalso
    exact hz ((sizeM_zero ho).2 fun i j => by
      cases hh : inO o i j with
      | false => rfl
      | true => exact absurd (hs i j hh) (h i j))
  | some p => exact ⟨p.1, p.2, rfl, h.1, fun a b hab => h.2 a b (hs a b hab)⟩
end Go.Proofs.YtmfiencoefbjfaaGreatDoor
namespace Go.Proofs.YtmfiencoefbjfaaGreatDoor
open Go.RowKit
/-- The map with all of the own blocks in it, as they are. -/
def PMap.lent (X : PMap) (own : Own) (W : World) : PMap := fun k => if own.any (fun p => Nat.beq p.b k) then W.heap[k]? else X k
theorem lent_in {X : PMap} {own : Own} {W : World} (h : PIn X W) : PIn (X.lent own W) W := fun k o hk => by
  unfold PMap.lent at hk
  split at hk
  · exact hk
  · exact h k o hk
theorem lent_le {X : PMap} {own : Own} {W : World} (h : PIn X W) : X.le (X.lent own W) := fun k o hk => by
  unfold PMap.lent
  split
  · exact h k o hk
  · exact hk
theorem lent_blk {X : PMap} {own : Own} {W : World} (h : Stab own X W) {p : Ow} (hp : p ∈ own) : Blk (X.lent own W) p.b p.cs := by
  obtain ⟨r, hr, _⟩ := h.own p hp
  refine ⟨r, p.ty, (0, 0), ?_⟩
  unfold PMap.lent
  rw [if_pos (List.any_eq_true.2 ⟨p, hp, Nat.beq_refl _⟩)]
  exact hr
section
variable {ro : Option Nat} {P : Program} {n : NM} {w0 : Base} {X0 X : PMap} {own : Own} {env : Env}
theorem args_all {a : Act} (ha : EOk n env a) : ∀ (xs : List Operand) (vs : List Value), xs.map (eev env) = vs.map some → xs.map a.eval = vs
  | [], vs, h => by cases vs <;> simp_all
  | x :: xs, vs, h => by
    cases vs with
    | nil => simp at h
    | cons v vs =>
      simp only [List.map_cons, List.cons.injEq] at h
      simp [ha.eval h.1, args_all ha xs vs h.2]
/-- A call that reads own blocks and answers what has nothing to do with memory. -/
theorem op_callLend {f : FuncId} {xs : Array Operand} {ts : Array TypeId} {vs : List Value} {Ψ : Value → Prop} (he : Enters P f) (hx : xs.toList.map (eev env) = vs.map some)
    (h : ∀ X1 : PMap, X.le X1 → (∀ p ∈ own, Blk X1 p.b p.cs) → Spec P f vs X1 fun u _ => Ψ u) : OpX P n w0 X0 env own X (.call { callee := .value (.func f), args := xs, argTypes := ts }) true fun v own' X' => own = own' ∧ X = X' ∧ Ψ v := by
  intro a W oper K Q ro hop ha hs hK
  have h1 : xs.map a.eval = vs.toArray := by apply Array.toList_inj.1; simp [args_all ha _ _ hx]
  have hex : (execOp a.eval oper).run P W = .ok (.enter f vs.toArray) W := by
    have hc : a.eval (.func f) = .func (.func f) #[] #[] := ha.eval rfl
    simp only [execOp, hop, resolve, hc, h1, Deferred.ofValue, invoke, Sem.run_bind, Sem.run_pure, Result.andThen_ok]
    simpa using he vs.toArray W
  have hin := lent_in (own := own) hs.stab.pers
  refine wp_enters (noDefer_spec (by rw [hop]; rfl)) hex ((h (X.lent own W) (lent_le hs.stab.pers) (fun p hp => lent_blk hs.stab hp) W hin).mono fun e w' hfin => ?_)
  obtain ⟨v, X', rfl, hb, _, _, hΨ⟩ := hfin
  refine ⟨v, rfl, hK v own X w' ⟨rfl, rfl, hΨ⟩ (hs.call hb ((Grow.of_below hb).pin hs.stab.pers) (fun _ _ => rfl)) fun _ => Grow.of_below hb⟩
/-- A call that reads own blocks and hands over new ones. -/
theorem op_callLendO {f : FuncId} {xs : Array Operand} {ts : Array TypeId} {vs : List Value} {Φ : Value → Own → Prop} (he : Enters P f) (hx : xs.toList.map (eev env) = vs.map some)
    (h : ∀ X1 : PMap, X.le X1 → (∀ p ∈ own, Blk X1 p.b p.cs) → SpecO P f vs X1 fun u own1 _ => Φ u own1) : OpX P n w0 X0 env own X (.call { callee := .value (.func f), args := xs, argTypes := ts }) true fun v own' X' => ∃ own1, own' = own1 ++ own ∧ X = X' ∧ Φ v own1 := by
  intro a W oper K Q ro hop ha hs hK
  have h1 : xs.map a.eval = vs.toArray := by apply Array.toList_inj.1; simp [args_all ha _ _ hx]
  have hex : (execOp a.eval oper).run P W = .ok (.enter f vs.toArray) W := by
    have hc : a.eval (.func f) = .func (.func f) #[] #[] := ha.eval rfl
    simp only [execOp, hop, resolve, hc, h1, Deferred.ofValue, invoke, Sem.run_bind, Sem.run_pure, Result.andThen_ok]
    simpa using he vs.toArray W
  have hin := lent_in (own := own) hs.stab.pers
  refine wp_enters (noDefer_spec (by rw [hop]; rfl)) hex ((h (X.lent own W) (lent_le hs.stab.pers) (fun p hp => lent_blk hs.stab hp) W hin).mono fun e w' hfin => ?_)
  obtain ⟨v, own1, X', rfl, hc, hΦ⟩ := hfin
  have hg := Grow.of_below hc.below
  have hc' : SatC W X own1 X w' := ⟨hc.below, fun _ _ => rfl, ⟨hc.stab.own, hg.pin hs.stab.pers⟩, hc.new, fun p hp => by
    have hn := hc.new p hp
    cases hx : X p.b with
    | none => rfl
    | some o => have := hs.stab.pers.lt hx; omega, hc.nodup⟩
  exact ⟨v, rfl, hK v _ X w' ⟨own1, rfl, rfl, hΦ⟩ (hs.callO hc') fun _ => hg⟩
theorem OpX.mono {o : Op} {g : Bool} {k k' : Value → Own → PMap → Prop} (h : OpX P n w0 X0 env own X o g k) (hk : ∀ v own' X', k v own' X' → k' v own' X') : OpX P n w0 X0 env own X o g k' :=
  fun a W oper K Q ro hop ha hs hK => h a W oper K Q ro hop ha hs fun v own' X' W' hkk => hK v own' X' W' (hk v own' X' hkk)
theorem GrowS.pos {e : TypeId} {size len : Nat} {v : Value} {cs : List Value} {G : Own} (h : GrowS e size v len cs G) (h0 : 0 < len) : ∃ b cap, v = .slice (some ⟨b, 0, none⟩) len cap ∧ G = [⟨b, cs, e, cap * size⟩] ∧ len ≤ cap ∧ cap ≤ maxLen := by
  rcases h with ⟨h1, _⟩ | ⟨b, cap, h1, h2, h3, h4, _⟩
  · omega
  · exact ⟨b, cap, h1, h2, h3, h4⟩
end
end Go.Proofs.YtmfiencoefbjfaaGreatDoor
