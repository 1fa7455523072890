/- SETS OF SMALL NUMBERS: one member more, one less; the first numbers. -/
import Derived.Test.YtkmnlogacfkjmaaDoorBits
namespace Go.Proofs.YtkmnlogacfkjmaaDoor
section
set_option maxRecDepth 100000
theorem en21 : Enters Tryd.prog 21 := enters_mk Tryd.func21 (by kernel_rfl) rfl
theorem mk37 : ∃ i, Tryd.prog.info? 95 = some i ∧ i.size = 1 ∧ i.bytes = 8 ∧ i.zero = some (.int .u64 0) := mk_of (by kernel_rfl)
theorem z39 : Zero Tryd.prog 39 [.slice none 0 0] := ⟨zero_of (by kernel_rfl)⟩
theorem st39 : StT Tryd.prog 39 [(0, 1)] [.slice none 0 0] := ⟨⟨_, Tryd.underlying39, fun _ => by kernel_rfl, z39⟩⟩
end

theorem hasB_nat (m i : Nat) : hasB m (i : Int) = m.testBit i := by simp [hasB]
theorem or_bit_of_has {m i : Nat} (h : m.testBit i = true) : m ||| 2 ^ i = m := by
  apply Nat.eq_of_testBit_eq
  intro j
  rw [Nat.testBit_or, Nat.testBit_two_pow]
  by_cases e : i = j
  · subst e; simp [h]
  · simp [e]
theorem or_bit_lt {m i : Nat} (h : m < 18446744073709551616) (hi : i < 64) : m ||| 2 ^ i < 18446744073709551616 :=
  Nat.or_lt_two_pow (n := 64) h (Nat.pow_lt_pow_right (by omega) hi)
theorem or_bit_ne (m i : Nat) : m ||| 2 ^ i ≠ 0 := by
  intro h
  have := (Nat.or_eq_zero_iff.1 h).2
  have h2 : 0 < 2 ^ i := Nat.pow_pos (by omega)
  omega

theorem with_spec {X : PMap} {v : Value} {m : Nat} (h : SetR X v m) (i : Nat) (hi : i < 64) : Spec Tryd.prog 52 [v, .int .i64 (i : Int)] X fun u X' => SetR X' u (m ||| 2 ^ i) := by
  have hlt := h.lt
  have hl := or_bit_lt hlt hi
  have hp : 2 ^ i < 18446744073709551616 := Nat.pow_lt_pow_right (a := 2) (by omega) hi
  by_cases hb : m.testBit i = true
  · have hbb : hasB m (i : Int) = true := by rw [hasB_nat, hb]
    have hm := or_bit_of_has hb
    obtain ⟨A, l, c, rfl⟩ := h.form
    refine Spec.enter Tryd.func52 rfl Tryd.ntmps52 rfl ?_
    intro w0 hw0
    refine T.seq ?_
    refine T.region ?_
    refine SL.x (op_box rfl) rfl rfl ?_
    rintro _ _ _ ⟨B2, rfl, rfl, rfl⟩
    refine SL.x (op_alloc z39) rfl rfl ?_
    rintro _ _ _ ⟨B4, rfl, rfl, rfl⟩
    refine SL.nil ?_
    refine T.seq ?_
    refine T.seq ?_
    refine T.region ?_
    refine SL.y (op_move rfl) rfl rfl ?_
    first | refine SL.y (op_lssT rfl rfl (by omega)) rfl rfl ?_ | refine SL.y (op_lssF rfl rfl (by omega)) rfl rfl ?_ | refine SL.y (op_lss rfl rfl) rfl rfl ?_
    refine SL.y (op_move rfl) rfl rfl ?_
    first | refine SL.skip rfl rfl ?_ | refine SL.y (op_move rfl) rfl rfl ?_
    first | refine SL.skip rfl rfl ?_ | refine SL.y (op_gtrT rfl rfl (by omega)) rfl rfl ?_ | refine SL.y (op_gtrF rfl rfl (by omega)) rfl rfl ?_ | refine SL.y (op_gtr rfl rfl) rfl rfl ?_
    first | refine SL.y (op_pickT rfl rfl) rfl rfl ?_ | refine SL.y (op_pickF rfl rfl) rfl rfl ?_ | refine SL.y (op_pickB rfl rfl rfl) rfl rfl ?_
    refine SL.y (op_move rfl) rfl rfl ?_
    first | refine SL.skip rfl rfl ?_ | refine SL.y (op_load ty39 rfl (by repeat (first | exact AtO.here | apply AtO.there)) rfl) rfl rfl ?_ | refine SL.y (op_loadX ty39 rfl (by assumption) rfl) rfl rfl ?_
    first | refine SL.skip rfl rfl ?_ | refine SL.y (op_move rfl) rfl rfl ?_
    -- op
    refine SL.x (op_callF en21 (vs := [_, _]) rfl (has_spec h _)) rfl rfl ?_
    rintro _ _ X1 ⟨rfl, hX1, rfl⟩
    rw [hbb]
    first | refine SL.y (op_pickT rfl rfl) rfl rfl ?_ | refine SL.y (op_pickF rfl rfl) rfl rfl ?_ | refine SL.y (op_pickB rfl rfl rfl) rfl rfl ?_
    refine SL.nil ?_
    refine T.condT rfl ?_
    refine T.seq ?_
    refine T.region ?_
    first | refine SL.y (op_load ty39 rfl (by repeat (first | exact AtO.here | apply AtO.there)) rfl) rfl rfl ?_ | refine SL.y (op_loadX ty39 rfl (by assumption) rfl) rfl rfl ?_
    refine SL.x (op_store ty39 rfl rfl (by repeat (first | exact AtO.here | apply AtO.there)) rfl rfl rfl) rfl rfl ?_
    rintro _ _ _ ⟨rfl, rfl⟩
    refine SL.nil ?_
    -- ret
    refine T.ret1 rfl (ResIs.cell rfl ty39 (by repeat (first | exact AtO.here | apply AtO.there)) rfl) ?_
    rw [hm]
    exact h.mono hX1
  · have hbb : hasB m (i : Int) = false := by rw [hasB_nat]; simpa using hb
    rcases h with ⟨rfl, A, c, rfl⟩ | ⟨h0, h1, b, c, rest, rfl, hB⟩
    · refine Spec.enter Tryd.func52 rfl Tryd.ntmps52 rfl ?_
      intro w0 hw0
      refine T.seq ?_
      refine T.region ?_
      refine SL.x (op_box rfl) rfl rfl ?_
      rintro _ _ _ ⟨B2, rfl, rfl, rfl⟩
      refine SL.x (op_alloc z39) rfl rfl ?_
      rintro _ _ _ ⟨B4, rfl, rfl, rfl⟩
      refine SL.nil ?_
      refine T.seq ?_
      refine T.seq ?_
      refine T.region ?_
      refine SL.y (op_move rfl) rfl rfl ?_
      first | refine SL.y (op_lssT rfl rfl (by omega)) rfl rfl ?_ | refine SL.y (op_lssF rfl rfl (by omega)) rfl rfl ?_ | refine SL.y (op_lss rfl rfl) rfl rfl ?_
      refine SL.y (op_move rfl) rfl rfl ?_
      first | refine SL.skip rfl rfl ?_ | refine SL.y (op_move rfl) rfl rfl ?_
      first | refine SL.skip rfl rfl ?_ | refine SL.y (op_gtrT rfl rfl (by omega)) rfl rfl ?_ | refine SL.y (op_gtrF rfl rfl (by omega)) rfl rfl ?_ | refine SL.y (op_gtr rfl rfl) rfl rfl ?_
      first | refine SL.y (op_pickT rfl rfl) rfl rfl ?_ | refine SL.y (op_pickF rfl rfl) rfl rfl ?_ | refine SL.y (op_pickB rfl rfl rfl) rfl rfl ?_
      refine SL.y (op_move rfl) rfl rfl ?_
      first | refine SL.skip rfl rfl ?_ | refine SL.y (op_load ty39 rfl (by repeat (first | exact AtO.here | apply AtO.there)) rfl) rfl rfl ?_ | refine SL.y (op_loadX ty39 rfl (by assumption) rfl) rfl rfl ?_
      first | refine SL.skip rfl rfl ?_ | refine SL.y (op_move rfl) rfl rfl ?_
      -- op
      refine SL.x (op_callF en21 (vs := [_, _]) rfl (has_spec SetR.zero _)) rfl rfl ?_
      rintro _ _ X1 ⟨rfl, hX1, rfl⟩
      rw [hbb]
      first | refine SL.y (op_pickT rfl rfl) rfl rfl ?_ | refine SL.y (op_pickF rfl rfl) rfl rfl ?_ | refine SL.y (op_pickB rfl rfl rfl) rfl rfl ?_
      refine SL.nil ?_
      refine T.condF rfl ?_
      refine T.skip ?_
      refine T.seq ?_
      refine T.region ?_
      refine SL.y (op_fieldAddr fa39_0 rfl) rfl rfl ?_
      first | refine SL.y (op_load ty37 rfl (by repeat (first | exact AtO.here | apply AtO.there)) rfl) rfl rfl ?_ | refine SL.y (op_loadX ty37 rfl (by assumption) rfl) rfl rfl ?_
      refine SL.y (op_lenS Tryd.underlying37 rfl) rfl rfl ?_
      refine SL.y (op_move rfl) rfl rfl ?_
      first | refine SL.y (op_quo0 (q := 64) rfl rfl rfl (by omega) (by omega)) rfl rfl ?_ | refine SL.y (op_quoN (q := 64) rfl rfl rfl (by omega) (by decide)) rfl rfl ?_ | refine SL.y (op_quo rfl rfl (by omega) (by omega) (by omega)) rfl rfl ?_
      first | refine SL.y (op_addN (q := 1) rfl rfl (by omega)) rfl rfl ?_ | refine SL.y (op_add rfl rfl (by omega) (by omega)) rfl rfl ?_ | refine SL.y (op_addW rfl rfl) rfl rfl ?_
      first | refine SL.y (op_maxL rfl rfl (by omega)) rfl rfl ?_ | refine SL.y (op_maxR rfl rfl (by omega)) rfl rfl ?_ | refine SL.y (op_maxN rfl rfl) rfl rfl ?_ | refine SL.y (op_max rfl rfl rfl) rfl rfl ?_
      refine SL.x (op_make Tryd.underlying37 mk37 rfl rfl rfl (Nat.le_refl _) (by omega) (by omega)) rfl rfl ?_
      rintro _ _ _ ⟨B25, rfl, rfl, rfl⟩
      refine SL.y (op_assign rfl) rfl rfl ?_
      refine SL.nil ?_
      refine T.seq ?_
      refine T.region ?_
      refine SL.y (op_move rfl) rfl rfl ?_
      refine SL.y (op_fieldAddr fa39_0 rfl) rfl rfl ?_
      first | refine SL.y (op_load ty37 rfl (by repeat (first | exact AtO.here | apply AtO.there)) rfl) rfl rfl ?_ | refine SL.y (op_loadX ty37 rfl (by assumption) rfl) rfl rfl ?_
      -- op
      refine SL.x (op_copy Tryd.underlying37 (by kernel_rfl) rfl rfl (by repeat (first | exact AtO.here | apply AtO.there)) Src.nil (m := 0) (by simp) (by simp) (by simp)) rfl rfl ?_
      rintro _ _ _ ⟨rfl, rfl, rfl⟩
      refine SL.nil ?_
      refine T.seq ?_
      refine T.draw (by kernel_rfl) 10 [.t 0, .t 1, .t 2, .t 3, .t 4, .t 5, .t 6, .t 7, .t 8, .t 9] (by kernel_rfl) ?_
      refine SD.take rfl panicBody (op_move rfl) rfl rfl ?_
      refine SD.take rfl panicBody (op_move rfl) rfl rfl ?_
      first | refine SD.take rfl panicBody (op_quo0 (q := 64) rfl rfl rfl (by omega) (by omega)) rfl rfl ?_ | refine SD.take rfl panicBody (op_quoN (q := 64) rfl rfl rfl (by omega) (by decide)) rfl rfl ?_ | refine SD.take rfl panicBody (op_quo rfl rfl (by omega) (by omega) (by omega)) rfl rfl ?_
      first | refine SD.take rfl panicBody (op_indexN Tryd.underlying37 ty95 rfl rfl (by omega)) rfl rfl ?_ | refine SD.take rfl panicBody (op_index Tryd.underlying37 ty95 rfl rfl (by omega) (by omega)) rfl rfl ?_
      first | refine SD.take rfl panicBody (op_load ty95 rfl (by repeat (first | exact AtO.here | apply AtO.there)) rfl) rfl rfl ?_ | refine SD.take rfl panicBody (op_loadX ty95 rfl (by assumption) rfl) rfl rfl ?_
      refine SD.take rfl panicBody (op_move rfl) rfl rfl ?_
      first | refine SD.take rfl panicBody (op_remS (q := 64) rfl rfl rfl (by omega)) rfl rfl ?_ | refine SD.take rfl panicBody (op_remN (q := 64) rfl rfl rfl (by decide)) rfl rfl ?_ | refine SD.take rfl panicBody (op_rem rfl rfl (by omega) (by omega)) rfl rfl ?_
      first | refine SD.take rfl panicBody (op_bit rfl rfl (by omega)) rfl rfl ?_ | refine SD.take rfl panicBody (op_shl rfl rfl) rfl rfl ?_
      refine SD.take rfl panicBody (op_or rfl rfl (by first | omega | assumption | decide | exact Nat.lt_of_le_of_lt (Nat.shiftRight_le ..) (by first | omega | assumption) | exact Nat.lt_of_le_of_lt Nat.and_le_left (by first | omega | assumption) | exact Nat.lt_of_le_of_lt Nat.and_le_right (by first | omega | decide)) (by first | omega | assumption | decide | exact Nat.lt_of_le_of_lt (Nat.shiftRight_le ..) (by first | omega | assumption) | exact Nat.lt_of_le_of_lt Nat.and_le_left (by first | omega | assumption) | exact Nat.lt_of_le_of_lt Nat.and_le_right (by first | omega | decide))) rfl rfl ?_
      first | refine SD.take rfl panicBody (op_indexN Tryd.underlying37 ty95 rfl rfl (by omega)) rfl rfl ?_ | refine SD.take rfl panicBody (op_index Tryd.underlying37 ty95 rfl rfl (by omega) (by omega)) rfl rfl ?_
      refine SD.nil ?_
      show SL _ _ _ _ _ _ _ [_] _ _ _
      refine SL.x (op_store ty95 rfl rfl (by repeat (first | exact AtO.here | apply AtO.there)) rfl rfl rfl) rfl rfl ?_
      rintro _ _ _ ⟨rfl, rfl⟩
      refine SL.nil ?_
      refine T.seq ?_
      refine T.region ?_
      refine SL.y (op_move rfl) rfl rfl ?_
      refine SL.y (op_build st39 (qs := [(0, _)]) rfl rfl) rfl rfl ?_
      refine SL.x (op_store ty39 rfl rfl (by repeat (first | exact AtO.here | apply AtO.there)) rfl rfl rfl) rfl rfl ?_
      rintro _ _ _ ⟨rfl, rfl⟩
      refine SL.nil ?_
      -- ret
      refine T.pub _ (by repeat (first | exact AtO.here | apply AtO.there)) ?_
      intro X2 hX2 hB2 _
      refine T.ret1 rfl (ResIs.cell rfl ty39 (by repeat (first | exact AtO.here | apply AtO.there)) rfl) ?_
      exact SetR.one (by simp) (by simpa using hl) hB2
    · refine Spec.enter Tryd.func52 rfl Tryd.ntmps52 rfl ?_
      intro w0 hw0
      refine T.seq ?_
      refine T.region ?_
      refine SL.x (op_box rfl) rfl rfl ?_
      rintro _ _ _ ⟨B2, rfl, rfl, rfl⟩
      refine SL.x (op_alloc z39) rfl rfl ?_
      rintro _ _ _ ⟨B4, rfl, rfl, rfl⟩
      refine SL.nil ?_
      refine T.seq ?_
      refine T.seq ?_
      refine T.region ?_
      refine SL.y (op_move rfl) rfl rfl ?_
      first | refine SL.y (op_lssT rfl rfl (by omega)) rfl rfl ?_ | refine SL.y (op_lssF rfl rfl (by omega)) rfl rfl ?_ | refine SL.y (op_lss rfl rfl) rfl rfl ?_
      refine SL.y (op_move rfl) rfl rfl ?_
      first | refine SL.skip rfl rfl ?_ | refine SL.y (op_move rfl) rfl rfl ?_
      first | refine SL.skip rfl rfl ?_ | refine SL.y (op_gtrT rfl rfl (by omega)) rfl rfl ?_ | refine SL.y (op_gtrF rfl rfl (by omega)) rfl rfl ?_ | refine SL.y (op_gtr rfl rfl) rfl rfl ?_
      first | refine SL.y (op_pickT rfl rfl) rfl rfl ?_ | refine SL.y (op_pickF rfl rfl) rfl rfl ?_ | refine SL.y (op_pickB rfl rfl rfl) rfl rfl ?_
      refine SL.y (op_move rfl) rfl rfl ?_
      first | refine SL.skip rfl rfl ?_ | refine SL.y (op_load ty39 rfl (by repeat (first | exact AtO.here | apply AtO.there)) rfl) rfl rfl ?_ | refine SL.y (op_loadX ty39 rfl (by assumption) rfl) rfl rfl ?_
      first | refine SL.skip rfl rfl ?_ | refine SL.y (op_move rfl) rfl rfl ?_
      -- op
      refine SL.x (op_callF en21 (vs := [_, _]) rfl (has_spec (SetR.one (by omega) h1 hB) _)) rfl rfl ?_
      rintro _ _ X1 ⟨rfl, hX1, rfl⟩
      rw [hbb]
      first | refine SL.y (op_pickT rfl rfl) rfl rfl ?_ | refine SL.y (op_pickF rfl rfl) rfl rfl ?_ | refine SL.y (op_pickB rfl rfl rfl) rfl rfl ?_
      refine SL.nil ?_
      refine T.condF rfl ?_
      refine T.skip ?_
      refine T.seq ?_
      refine T.region ?_
      refine SL.y (op_fieldAddr fa39_0 rfl) rfl rfl ?_
      first | refine SL.y (op_load ty37 rfl (by repeat (first | exact AtO.here | apply AtO.there)) rfl) rfl rfl ?_ | refine SL.y (op_loadX ty37 rfl (by assumption) rfl) rfl rfl ?_
      refine SL.y (op_lenS Tryd.underlying37 rfl) rfl rfl ?_
      refine SL.y (op_move rfl) rfl rfl ?_
      first | refine SL.y (op_quo0 (q := 64) rfl rfl rfl (by omega) (by omega)) rfl rfl ?_ | refine SL.y (op_quoN (q := 64) rfl rfl rfl (by omega) (by decide)) rfl rfl ?_ | refine SL.y (op_quo rfl rfl (by omega) (by omega) (by omega)) rfl rfl ?_
      first | refine SL.y (op_addN (q := 1) rfl rfl (by omega)) rfl rfl ?_ | refine SL.y (op_add rfl rfl (by omega) (by omega)) rfl rfl ?_ | refine SL.y (op_addW rfl rfl) rfl rfl ?_
      first | refine SL.y (op_maxL rfl rfl (by omega)) rfl rfl ?_ | refine SL.y (op_maxR rfl rfl (by omega)) rfl rfl ?_ | refine SL.y (op_maxN rfl rfl) rfl rfl ?_ | refine SL.y (op_max rfl rfl rfl) rfl rfl ?_
      refine SL.x (op_make Tryd.underlying37 mk37 rfl rfl rfl (Nat.le_refl _) (by omega) (by omega)) rfl rfl ?_
      rintro _ _ _ ⟨B25, rfl, rfl, rfl⟩
      refine SL.y (op_assign rfl) rfl rfl ?_
      refine SL.nil ?_
      refine T.seq ?_
      refine T.region ?_
      refine SL.y (op_move rfl) rfl rfl ?_
      refine SL.y (op_fieldAddr fa39_0 rfl) rfl rfl ?_
      first | refine SL.y (op_load ty37 rfl (by repeat (first | exact AtO.here | apply AtO.there)) rfl) rfl rfl ?_ | refine SL.y (op_loadX ty37 rfl (by assumption) rfl) rfl rfl ?_
      -- op
      refine SL.x (op_copy Tryd.underlying37 (by kernel_rfl) rfl rfl (by repeat (first | exact AtO.here | apply AtO.there)) (Src.ofExt (hB.mono hX1) (by simp)) (m := 1) (by simp) (by simp) (by simp [Value.oneCell'])) rfl rfl ?_
      rintro _ _ _ ⟨rfl, rfl, rfl⟩
      refine SL.nil ?_
      refine T.seq ?_
      refine T.draw (by kernel_rfl) 10 [.t 0, .t 1, .t 2, .t 3, .t 4, .t 5, .t 6, .t 7, .t 8, .t 9] (by kernel_rfl) ?_
      refine SD.take rfl panicBody (op_move rfl) rfl rfl ?_
      refine SD.take rfl panicBody (op_move rfl) rfl rfl ?_
      first | refine SD.take rfl panicBody (op_quo0 (q := 64) rfl rfl rfl (by omega) (by omega)) rfl rfl ?_ | refine SD.take rfl panicBody (op_quoN (q := 64) rfl rfl rfl (by omega) (by decide)) rfl rfl ?_ | refine SD.take rfl panicBody (op_quo rfl rfl (by omega) (by omega) (by omega)) rfl rfl ?_
      first | refine SD.take rfl panicBody (op_indexN Tryd.underlying37 ty95 rfl rfl (by omega)) rfl rfl ?_ | refine SD.take rfl panicBody (op_index Tryd.underlying37 ty95 rfl rfl (by omega) (by omega)) rfl rfl ?_
      first | refine SD.take rfl panicBody (op_load ty95 rfl (by repeat (first | exact AtO.here | apply AtO.there)) rfl) rfl rfl ?_ | refine SD.take rfl panicBody (op_loadX ty95 rfl (by assumption) rfl) rfl rfl ?_
      refine SD.take rfl panicBody (op_move rfl) rfl rfl ?_
      first | refine SD.take rfl panicBody (op_remS (q := 64) rfl rfl rfl (by omega)) rfl rfl ?_ | refine SD.take rfl panicBody (op_remN (q := 64) rfl rfl rfl (by decide)) rfl rfl ?_ | refine SD.take rfl panicBody (op_rem rfl rfl (by omega) (by omega)) rfl rfl ?_
      first | refine SD.take rfl panicBody (op_bit rfl rfl (by omega)) rfl rfl ?_ | refine SD.take rfl panicBody (op_shl rfl rfl) rfl rfl ?_
      refine SD.take rfl panicBody (op_or rfl rfl (by first | omega | assumption | decide | exact Nat.lt_of_le_of_lt (Nat.shiftRight_le ..) (by first | omega | assumption) | exact Nat.lt_of_le_of_lt Nat.and_le_left (by first | omega | assumption) | exact Nat.lt_of_le_of_lt Nat.and_le_right (by first | omega | decide)) (by first | omega | assumption | decide | exact Nat.lt_of_le_of_lt (Nat.shiftRight_le ..) (by first | omega | assumption) | exact Nat.lt_of_le_of_lt Nat.and_le_left (by first | omega | assumption) | exact Nat.lt_of_le_of_lt Nat.and_le_right (by first | omega | decide))) rfl rfl ?_
      first | refine SD.take rfl panicBody (op_indexN Tryd.underlying37 ty95 rfl rfl (by omega)) rfl rfl ?_ | refine SD.take rfl panicBody (op_index Tryd.underlying37 ty95 rfl rfl (by omega) (by omega)) rfl rfl ?_
      refine SD.nil ?_
      show SL _ _ _ _ _ _ _ [_] _ _ _
      refine SL.x (op_store ty95 rfl rfl (by repeat (first | exact AtO.here | apply AtO.there)) rfl rfl rfl) rfl rfl ?_
      rintro _ _ _ ⟨rfl, rfl⟩
      refine SL.nil ?_
      refine T.seq ?_
      refine T.region ?_
      refine SL.y (op_move rfl) rfl rfl ?_
      refine SL.y (op_build st39 (qs := [(0, _)]) rfl rfl) rfl rfl ?_
      refine SL.x (op_store ty39 rfl rfl (by repeat (first | exact AtO.here | apply AtO.there)) rfl rfl rfl) rfl rfl ?_
      rintro _ _ _ ⟨rfl, rfl⟩
      refine SL.nil ?_
      -- ret
      refine T.pub _ (by repeat (first | exact AtO.here | apply AtO.there)) ?_
      intro X2 hX2 hB2 _
      refine T.ret1 rfl (ResIs.cell rfl ty39 (by repeat (first | exact AtO.here | apply AtO.there)) rfl) ?_
      exact SetR.one (or_bit_ne m i) hl hB2

end Go.Proofs.YtkmnlogacfkjmaaDoor
