/- SETS OF SMALL NUMBERS: one member more, one less; the first numbers. -/
import Derived.Test.YtoheffglppbcbaaDoorBits
namespace Go.Proofs.YtoheffglppbcbaaDoor
section
set_option maxRecDepth 100000
theorem bs64 : ∃ i z, Tryd.prog.info? 64 = some i ∧ i.size = 1 ∧ i.zero = some z ∧ z.cells = ([.int .u64 0] : List Value).toArray := bs_of (by kernel_rfl)
theorem en32 : Enters Tryd.prog 32 := enters_mk Tryd.func32 (by kernel_rfl) rfl
theorem sl45 : SlT Tryd.prog 45 64 1 8 := ⟨Tryd.underlying45, sl_of (by kernel_rfl) (by decide)⟩
end

theorem hasB_nat (m i : Nat) : hasB m (i : Int) = m.testBit i := by simp [hasB]
theorem or_bit_of_has {m i : Nat} (h : m.testBit i = true) : m ||| 2 ^ i = m := by
  apply Nat.eq_of_testBit_eq
  intro j
  rw [Nat.testBit_or, Nat.testBit_two_pow]
  by_cases e : i = j
  · subst e; simp [h]
  · simp [e]
theorem or_bit_lt {m i : Nat} (h : m < 18446744073709551616) (hi : i < 64) : m ||| 2 ^ i < 18446744073709551616 :=
  Nat.or_lt_two_pow (n := 64) h (Nat.pow_lt_pow_right (by omega) hi)
theorem or_bit_ne (m i : Nat) : m ||| 2 ^ i ≠ 0 := by
  intro h
  have := (Nat.or_eq_zero_iff.1 h).2
  have h2 : 0 < 2 ^ i := Nat.pow_pos (by omega)
  omega

theorem with_spec {X : PMap} {v : Value} {m : Nat} (h : SetR X v m) (i : Nat) (hi : i < 64) : Spec Tryd.prog 51 [v, .int .i64 (i : Int)] X fun u X' => SetR X' u (m ||| 2 ^ i) := by
  have hlt := h.lt
  have hl := or_bit_lt hlt hi
  have hp : 2 ^ i < 18446744073709551616 := Nat.pow_lt_pow_right (a := 2) (by omega) hi
  by_cases hb : m.testBit i = true
  · have hbb : hasB m (i : Int) = true := by rw [hasB_nat, hb]
    have hm := or_bit_of_has hb
    obtain ⟨A, l, c, rfl⟩ := h.form
    refine Spec.enter Tryd.func51 rfl Tryd.ntmps51 rfl ?_
    intro w0 hw0
    refine T.seq ?_
    refine T.region ?_
    refine SL.x (op_box rfl) rfl rfl ?_
    rintro _ _ _ ⟨B2, rfl, rfl, rfl⟩
    refine SL.x (op_alloc z47) rfl rfl ?_
    rintro _ _ _ ⟨B4, rfl, rfl, rfl⟩
    refine SL.nil ?_
    refine T.seq ?_
    refine T.seq ?_
    refine T.region ?_
    refine SL.y (op_move rfl) rfl rfl ?_
    first | refine SL.y (op_lssT rfl rfl (by omega)) rfl rfl ?_ | refine SL.y (op_lssF rfl rfl (by omega)) rfl rfl ?_ | refine SL.y (op_lss rfl rfl) rfl rfl ?_
    refine SL.y (op_move rfl) rfl rfl ?_
    first | refine SL.skip rfl rfl ?_ | refine SL.y (op_move rfl) rfl rfl ?_
    first | refine SL.skip rfl rfl ?_ | refine SL.y (op_gtrT rfl rfl (by omega)) rfl rfl ?_ | refine SL.y (op_gtrF rfl rfl (by omega)) rfl rfl ?_ | refine SL.y (op_gtr rfl rfl) rfl rfl ?_
    first | refine SL.y (op_pickT rfl rfl) rfl rfl ?_ | refine SL.y (op_pickF rfl rfl) rfl rfl ?_ | refine SL.y (op_pickB rfl rfl rfl) rfl rfl ?_
    refine SL.y (op_move rfl) rfl rfl ?_
    first | refine SL.skip rfl rfl ?_ | refine SL.y (op_load ty47 rfl (by repeat (first | exact AtO.here | apply AtO.there)) rfl) rfl rfl ?_ | refine SL.y (op_loadX ty47 rfl (by assumption) rfl) rfl rfl ?_
    first | refine SL.skip rfl rfl ?_ | refine SL.y (op_move rfl) rfl rfl ?_
    -- op
    refine SL.x (op_callF en32 (vs := [_, _]) rfl (has_spec h _)) rfl rfl ?_
    rintro _ _ X1 ⟨rfl, hX1, rfl⟩
    rw [hbb]
    first | refine SL.y (op_pickT rfl rfl) rfl rfl ?_ | refine SL.y (op_pickF rfl rfl) rfl rfl ?_ | refine SL.y (op_pickB rfl rfl rfl) rfl rfl ?_
    refine SL.nil ?_
    refine T.condT rfl ?_
    refine T.seq ?_
    refine T.region ?_
    first | refine SL.y (op_load ty47 rfl (by repeat (first | exact AtO.here | apply AtO.there)) rfl) rfl rfl ?_ | refine SL.y (op_loadX ty47 rfl (by assumption) rfl) rfl rfl ?_
    refine SL.x (op_store ty47 rfl rfl (by repeat (first | exact AtO.here | apply AtO.there)) rfl rfl rfl) rfl rfl ?_
    rintro _ _ _ ⟨rfl, rfl⟩
    refine SL.nil ?_
    -- ret
    refine T.ret1 rfl (ResIs.cell rfl ty47 (by repeat (first | exact AtO.here | apply AtO.there)) rfl) ?_
    rw [hm]
    exact h.mono hX1
  · have hbb : hasB m (i : Int) = false := by rw [hasB_nat]; simpa using hb
    rcases h with ⟨rfl, A, c, rfl⟩ | ⟨h0, h1, b, c, rest, rfl, hB⟩
    · refine Spec.enter Tryd.func51 rfl Tryd.ntmps51 rfl ?_
      intro w0 hw0
      refine T.seq ?_
      refine T.region ?_
      refine SL.x (op_box rfl) rfl rfl ?_
      rintro _ _ _ ⟨B2, rfl, rfl, rfl⟩
      refine SL.x (op_alloc z47) rfl rfl ?_
      rintro _ _ _ ⟨B4, rfl, rfl, rfl⟩
      refine SL.nil ?_
      refine T.seq ?_
      refine T.seq ?_
      refine T.region ?_
      refine SL.y (op_move rfl) rfl rfl ?_
      first | refine SL.y (op_lssT rfl rfl (by omega)) rfl rfl ?_ | refine SL.y (op_lssF rfl rfl (by omega)) rfl rfl ?_ | refine SL.y (op_lss rfl rfl) rfl rfl ?_
      refine SL.y (op_move rfl) rfl rfl ?_
      first | refine SL.skip rfl rfl ?_ | refine SL.y (op_move rfl) rfl rfl ?_
      first | refine SL.skip rfl rfl ?_ | refine SL.y (op_gtrT rfl rfl (by omega)) rfl rfl ?_ | refine SL.y (op_gtrF rfl rfl (by omega)) rfl rfl ?_ | refine SL.y (op_gtr rfl rfl) rfl rfl ?_
      first | refine SL.y (op_pickT rfl rfl) rfl rfl ?_ | refine SL.y (op_pickF rfl rfl) rfl rfl ?_ | refine SL.y (op_pickB rfl rfl rfl) rfl rfl ?_
      refine SL.y (op_move rfl) rfl rfl ?_
      first | refine SL.skip rfl rfl ?_ | refine SL.y (op_load ty47 rfl (by repeat (first | exact AtO.here | apply AtO.there)) rfl) rfl rfl ?_ | refine SL.y (op_loadX ty47 rfl (by assumption) rfl) rfl rfl ?_
      first | refine SL.skip rfl rfl ?_ | refine SL.y (op_move rfl) rfl rfl ?_
      -- op
      refine SL.x (op_callF en32 (vs := [_, _]) rfl (has_spec SetR.zero _)) rfl rfl ?_
      rintro _ _ X1 ⟨rfl, hX1, rfl⟩
      rw [hbb]
      first | refine SL.y (op_pickT rfl rfl) rfl rfl ?_ | refine SL.y (op_pickF rfl rfl) rfl rfl ?_ | refine SL.y (op_pickB rfl rfl rfl) rfl rfl ?_
      refine SL.nil ?_
      refine T.condF rfl ?_
      refine T.skip ?_
      refine T.seq ?_
      refine T.region ?_
      refine SL.y (op_fieldAddr fa47_0 rfl) rfl rfl ?_
      first | refine SL.y (op_load ty45 rfl (by repeat (first | exact AtO.here | apply AtO.there)) rfl) rfl rfl ?_ | refine SL.y (op_loadX ty45 rfl (by assumption) rfl) rfl rfl ?_
      refine SL.y (op_lenS Tryd.underlying45 rfl) rfl rfl ?_
      refine SL.y (op_move rfl) rfl rfl ?_
      first | refine SL.y (op_quo0 (q := 64) rfl rfl rfl (by omega) (by omega)) rfl rfl ?_ | refine SL.y (op_quoN (q := 64) rfl rfl rfl (by omega) (by decide)) rfl rfl ?_ | refine SL.y (op_quo rfl rfl (by omega) (by omega) (by omega)) rfl rfl ?_
      first | refine SL.y (op_addN (q := 1) rfl rfl (by omega)) rfl rfl ?_ | refine SL.y (op_add rfl rfl (by omega) (by omega)) rfl rfl ?_ | refine SL.y (op_addW rfl rfl) rfl rfl ?_
      first | refine SL.y (op_maxL rfl rfl (by omega)) rfl rfl ?_ | refine SL.y (op_maxR rfl rfl (by omega)) rfl rfl ?_ | refine SL.y (op_maxN rfl rfl) rfl rfl ?_ | refine SL.y (op_max rfl rfl rfl) rfl rfl ?_
      refine SL.x (op_make Tryd.underlying45 mk45 rfl rfl rfl (Nat.le_refl _) (by omega) (by omega)) rfl rfl ?_
      rintro _ _ _ ⟨B25, rfl, rfl, rfl⟩
      refine SL.y (op_assign rfl) rfl rfl ?_
      refine SL.nil ?_
      refine T.seq ?_
      refine T.region ?_
      refine SL.y (op_move rfl) rfl rfl ?_
      refine SL.y (op_fieldAddr fa47_0 rfl) rfl rfl ?_
      first | refine SL.y (op_load ty45 rfl (by repeat (first | exact AtO.here | apply AtO.there)) rfl) rfl rfl ?_ | refine SL.y (op_loadX ty45 rfl (by assumption) rfl) rfl rfl ?_
      -- op
      refine SL.x (op_copy Tryd.underlying45 (by kernel_rfl) rfl rfl (by repeat (first | exact AtO.here | apply AtO.there)) Src.nil (m := 0) (by simp) (by simp) (by simp)) rfl rfl ?_
      rintro _ _ _ ⟨rfl, rfl, rfl⟩
      refine SL.nil ?_
      refine T.seq ?_
      refine T.draw (by kernel_rfl) 10 [.t 0, .t 1, .t 2, .t 3, .t 4, .t 5, .t 6, .t 7, .t 8, .t 9] (by kernel_rfl) ?_
      refine SD.take rfl panicBody (op_move rfl) rfl rfl ?_
      refine SD.take rfl panicBody (op_move rfl) rfl rfl ?_
      first | refine SD.take rfl panicBody (op_quo0 (q := 64) rfl rfl rfl (by omega) (by omega)) rfl rfl ?_ | refine SD.take rfl panicBody (op_quoN (q := 64) rfl rfl rfl (by omega) (by decide)) rfl rfl ?_ | refine SD.take rfl panicBody (op_quo rfl rfl (by omega) (by omega) (by omega)) rfl rfl ?_
      first | refine SD.take rfl panicBody (op_indexN Tryd.underlying45 ty64 rfl rfl (by omega)) rfl rfl ?_ | refine SD.take rfl panicBody (op_index Tryd.underlying45 ty64 rfl rfl (by omega) (by omega)) rfl rfl ?_
      first | refine SD.take rfl panicBody (op_load ty64 rfl (by repeat (first | exact AtO.here | apply AtO.there)) rfl) rfl rfl ?_ | refine SD.take rfl panicBody (op_loadX ty64 rfl (by assumption) rfl) rfl rfl ?_
      refine SD.take rfl panicBody (op_move rfl) rfl rfl ?_
      first | refine SD.take rfl panicBody (op_remS (q := 64) rfl rfl rfl (by omega)) rfl rfl ?_ | refine SD.take rfl panicBody (op_remN (q := 64) rfl rfl rfl (by decide)) rfl rfl ?_ | refine SD.take rfl panicBody (op_rem rfl rfl (by omega) (by omega)) rfl rfl ?_
      first | refine SD.take rfl panicBody (op_bit rfl rfl (by omega)) rfl rfl ?_ | refine SD.take rfl panicBody (op_shl rfl rfl) rfl rfl ?_
      refine SD.take rfl panicBody (op_or rfl rfl (by first | omega | assumption | decide | exact Nat.lt_of_le_of_lt (Nat.shiftRight_le ..) (by first | omega | assumption) | exact Nat.lt_of_le_of_lt Nat.and_le_left (by first | omega | assumption) | exact Nat.lt_of_le_of_lt Nat.and_le_right (by first | omega | decide)) (by first | omega | assumption | decide | exact Nat.lt_of_le_of_lt (Nat.shiftRight_le ..) (by first | omega | assumption) | exact Nat.lt_of_le_of_lt Nat.and_le_left (by first | omega | assumption) | exact Nat.lt_of_le_of_lt Nat.and_le_right (by first | omega | decide))) rfl rfl ?_
      first | refine SD.take rfl panicBody (op_indexN Tryd.underlying45 ty64 rfl rfl (by omega)) rfl rfl ?_ | refine SD.take rfl panicBody (op_index Tryd.underlying45 ty64 rfl rfl (by omega) (by omega)) rfl rfl ?_
      refine SD.nil ?_
      show SL _ _ _ _ _ _ _ [_] _ _ _
      refine SL.x (op_store ty64 rfl rfl (by repeat (first | exact AtO.here | apply AtO.there)) rfl rfl rfl) rfl rfl ?_
      rintro _ _ _ ⟨rfl, rfl⟩
      refine SL.nil ?_
      refine T.seq ?_
      refine T.region ?_
      refine SL.y (op_move rfl) rfl rfl ?_
      refine SL.y (op_build st47 (qs := [(0, _)]) rfl rfl) rfl rfl ?_
      refine SL.x (op_store ty47 rfl rfl (by repeat (first | exact AtO.here | apply AtO.there)) rfl rfl rfl) rfl rfl ?_
      rintro _ _ _ ⟨rfl, rfl⟩
      refine SL.nil ?_
      -- ret
      refine T.pub _ (by repeat (first | exact AtO.here | apply AtO.there)) ?_
      intro X2 hX2 hB2 _
      refine T.ret1 rfl (ResIs.cell rfl ty47 (by repeat (first | exact AtO.here | apply AtO.there)) rfl) ?_
      exact SetR.one (by simp) (by simpa using hl) hB2
    · refine Spec.enter Tryd.func51 rfl Tryd.ntmps51 rfl ?_
      intro w0 hw0
      refine T.seq ?_
      refine T.region ?_
      refine SL.x (op_box rfl) rfl rfl ?_
      rintro _ _ _ ⟨B2, rfl, rfl, rfl⟩
      refine SL.x (op_alloc z47) rfl rfl ?_
      rintro _ _ _ ⟨B4, rfl, rfl, rfl⟩
      refine SL.nil ?_
      refine T.seq ?_
      refine T.seq ?_
      refine T.region ?_
      refine SL.y (op_move rfl) rfl rfl ?_
      first | refine SL.y (op_lssT rfl rfl (by omega)) rfl rfl ?_ | refine SL.y (op_lssF rfl rfl (by omega)) rfl rfl ?_ | refine SL.y (op_lss rfl rfl) rfl rfl ?_
      refine SL.y (op_move rfl) rfl rfl ?_
      first | refine SL.skip rfl rfl ?_ | refine SL.y (op_move rfl) rfl rfl ?_
      first | refine SL.skip rfl rfl ?_ | refine SL.y (op_gtrT rfl rfl (by omega)) rfl rfl ?_ | refine SL.y (op_gtrF rfl rfl (by omega)) rfl rfl ?_ | refine SL.y (op_gtr rfl rfl) rfl rfl ?_
      first | refine SL.y (op_pickT rfl rfl) rfl rfl ?_ | refine SL.y (op_pickF rfl rfl) rfl rfl ?_ | refine SL.y (op_pickB rfl rfl rfl) rfl rfl ?_
      refine SL.y (op_move rfl) rfl rfl ?_
      first | refine SL.skip rfl rfl ?_ | refine SL.y (op_load ty47 rfl (by repeat (first | exact AtO.here | apply AtO.there)) rfl) rfl rfl ?_ | refine SL.y (op_loadX ty47 rfl (by assumption) rfl) rfl rfl ?_
      first | refine SL.skip rfl rfl ?_ | refine SL.y (op_move rfl) rfl rfl ?_
      -- op
      refine SL.x (op_callF en32 (vs := [_, _]) rfl (has_spec (SetR.one (by omega) h1 hB) _)) rfl rfl ?_
      rintro _ _ X1 ⟨rfl, hX1, rfl⟩
      rw [hbb]
      first | refine SL.y (op_pickT rfl rfl) rfl rfl ?_ | refine SL.y (op_pickF rfl rfl) rfl rfl ?_ | refine SL.y (op_pickB rfl rfl rfl) rfl rfl ?_
      refine SL.nil ?_
      refine T.condF rfl ?_
      refine T.skip ?_
      refine T.seq ?_
      refine T.region ?_
      refine SL.y (op_fieldAddr fa47_0 rfl) rfl rfl ?_
      first | refine SL.y (op_load ty45 rfl (by repeat (first | exact AtO.here | apply AtO.there)) rfl) rfl rfl ?_ | refine SL.y (op_loadX ty45 rfl (by assumption) rfl) rfl rfl ?_
      refine SL.y (op_lenS Tryd.underlying45 rfl) rfl rfl ?_
      refine SL.y (op_move rfl) rfl rfl ?_
      first | refine SL.y (op_quo0 (q := 64) rfl rfl rfl (by omega) (by omega)) rfl rfl ?_ | refine SL.y (op_quoN (q := 64) rfl rfl rfl (by omega) (by decide)) rfl rfl ?_ | refine SL.y (op_quo rfl rfl (by omega) (by omega) (by omega)) rfl rfl ?_
      first | refine SL.y (op_addN (q := 1) rfl rfl (by omega)) rfl rfl ?_ | refine SL.y (op_add rfl rfl (by omega) (by omega)) rfl rfl ?_ | refine SL.y (op_addW rfl rfl) rfl rfl ?_
      first | refine SL.y (op_maxL rfl rfl (by omega)) rfl rfl ?_ | refine SL.y (op_maxR rfl rfl (by omega)) rfl rfl ?_ | refine SL.y (op_maxN rfl rfl) rfl rfl ?_ | refine SL.y (op_max rfl rfl rfl) rfl rfl ?_
      refine SL.x (op_make Tryd.underlying45 mk45 rfl rfl rfl (Nat.le_refl _) (by omega) (by omega)) rfl rfl ?_
      rintro _ _ _ ⟨B25, rfl, rfl, rfl⟩
      refine SL.y (op_assign rfl) rfl rfl ?_
      refine SL.nil ?_
      refine T.seq ?_
      refine T.region ?_
      refine SL.y (op_move rfl) rfl rfl ?_
      refine SL.y (op_fieldAddr fa47_0 rfl) rfl rfl ?_
      first | refine SL.y (op_load ty45 rfl (by repeat (first | exact AtO.here | apply AtO.there)) rfl) rfl rfl ?_ | refine SL.y (op_loadX ty45 rfl (by assumption) rfl) rfl rfl ?_
      -- op
      refine SL.x (op_copy Tryd.underlying45 (by kernel_rfl) rfl rfl (by repeat (first | exact AtO.here | apply AtO.there)) (Src.ofExt (hB.mono hX1) (by simp)) (m := 1) (by simp) (by simp) (by simp [Value.oneCell'])) rfl rfl ?_
      rintro _ _ _ ⟨rfl, rfl, rfl⟩
      refine SL.nil ?_
      refine T.seq ?_
      refine T.draw (by kernel_rfl) 10 [.t 0, .t 1, .t 2, .t 3, .t 4, .t 5, .t 6, .t 7, .t 8, .t 9] (by kernel_rfl) ?_
      refine SD.take rfl panicBody (op_move rfl) rfl rfl ?_
      refine SD.take rfl panicBody (op_move rfl) rfl rfl ?_
      first | refine SD.take rfl panicBody (op_quo0 (q := 64) rfl rfl rfl (by omega) (by omega)) rfl rfl ?_ | refine SD.take rfl panicBody (op_quoN (q := 64) rfl rfl rfl (by omega) (by decide)) rfl rfl ?_ | refine SD.take rfl panicBody (op_quo rfl rfl (by omega) (by omega) (by omega)) rfl rfl ?_
      first | refine SD.take rfl panicBody (op_indexN Tryd.underlying45 ty64 rfl rfl (by omega)) rfl rfl ?_ | refine SD.take rfl panicBody (op_index Tryd.underlying45 ty64 rfl rfl (by omega) (by omega)) rfl rfl ?_
      first | refine SD.take rfl panicBody (op_load ty64 rfl (by repeat (first | exact AtO.here | apply AtO.there)) rfl) rfl rfl ?_ | refine SD.take rfl panicBody (op_loadX ty64 rfl (by assumption) rfl) rfl rfl ?_
      refine SD.take rfl panicBody (op_move rfl) rfl rfl ?_
      first | refine SD.take rfl panicBody (op_remS (q := 64) rfl rfl rfl (by omega)) rfl rfl ?_ | refine SD.take rfl panicBody (op_remN (q := 64) rfl rfl rfl (by decide)) rfl rfl ?_ | refine SD.take rfl panicBody (op_rem rfl rfl (by omega) (by omega)) rfl rfl ?_
      first | refine SD.take rfl panicBody (op_bit rfl rfl (by omega)) rfl rfl ?_ | refine SD.take rfl panicBody (op_shl rfl rfl) rfl rfl ?_
      refine SD.take rfl panicBody (op_or rfl rfl (by first | omega | assumption | decide | exact Nat.lt_of_le_of_lt (Nat.shiftRight_le ..) (by first | omega | assumption) | exact Nat.lt_of_le_of_lt Nat.and_le_left (by first | omega | assumption) | exact Nat.lt_of_le_of_lt Nat.and_le_right (by first | omega | decide)) (by first | omega | assumption | decide | exact Nat.lt_of_le_of_lt (Nat.shiftRight_le ..) (by first | omega | assumption) | exact Nat.lt_of_le_of_lt Nat.and_le_left (by first | omega | assumption) | exact Nat.lt_of_le_of_lt Nat.and_le_right (by first | omega | decide))) rfl rfl ?_
      first | refine SD.take rfl panicBody (op_indexN Tryd.underlying45 ty64 rfl rfl (by omega)) rfl rfl ?_ | refine SD.take rfl panicBody (op_index Tryd.underlying45 ty64 rfl rfl (by omega) (by omega)) rfl rfl ?_
      refine SD.nil ?_
      show SL _ _ _ _ _ _ _ [_] _ _ _
      refine SL.x (op_store ty64 rfl rfl (by repeat (first | exact AtO.here | apply AtO.there)) rfl rfl rfl) rfl rfl ?_
      rintro _ _ _ ⟨rfl, rfl⟩
      refine SL.nil ?_
      refine T.seq ?_
      refine T.region ?_
      refine SL.y (op_move rfl) rfl rfl ?_
      refine SL.y (op_build st47 (qs := [(0, _)]) rfl rfl) rfl rfl ?_
      refine SL.x (op_store ty47 rfl rfl (by repeat (first | exact AtO.here | apply AtO.there)) rfl rfl rfl) rfl rfl ?_
      rintro _ _ _ ⟨rfl, rfl⟩
      refine SL.nil ?_
      -- ret
      refine T.pub _ (by repeat (first | exact AtO.here | apply AtO.there)) ?_
      intro X2 hX2 hB2 _
      refine T.ret1 rfl (ResIs.cell rfl ty47 (by repeat (first | exact AtO.here | apply AtO.there)) rfl) ?_
      exact SetR.one (or_bit_ne m i) hl hB2

theorem without_spec {X : PMap} {v : Value} {m : Nat} (h : SetR X v m) (i : Nat) (hi : i < 64) : Spec Tryd.prog 88 [v, .int .i64 (i : Int)] X fun u X' => SetR X' u (m &&& (18446744073709551615 - 2 ^ i)) := by
  have hlt := h.lt
  have hp : 2 ^ i < 18446744073709551616 := Nat.pow_lt_pow_right (a := 2) (by omega) hi
  have hl : m &&& (18446744073709551615 - 2 ^ i) < 18446744073709551616 := Nat.lt_of_le_of_lt Nat.and_le_left hlt
  by_cases hb : m.testBit i = true
  · have hbb : hasB m (i : Int) = true := by rw [hasB_nat, hb]
    rcases h with ⟨rfl, A, c, rfl⟩ | ⟨h0, h1, b, c, rest, rfl, hB⟩
    · simp at hb
    · refine Spec.enter Tryd.func88 rfl Tryd.ntmps88 rfl ?_
      intro w0 hw0
      refine T.seq ?_
      refine T.region ?_
      refine SL.x (op_box rfl) rfl rfl ?_
      rintro _ _ _ ⟨B2, rfl, rfl, rfl⟩
      refine SL.x (op_alloc z47) rfl rfl ?_
      rintro _ _ _ ⟨B4, rfl, rfl, rfl⟩
      refine SL.nil ?_
      refine T.seq ?_
      refine T.seq ?_
      refine T.region ?_
      first | refine SL.y (op_load ty47 rfl (by repeat (first | exact AtO.here | apply AtO.there)) rfl) rfl rfl ?_ | refine SL.y (op_loadX ty47 rfl (by assumption) rfl) rfl rfl ?_
      refine SL.y (op_move rfl) rfl rfl ?_
      -- op
      refine SL.x (op_callF en32 (vs := [_, _]) rfl (has_spec (SetR.one (by omega) h1 hB) _)) rfl rfl ?_
      rintro _ _ X1 ⟨rfl, hX1, rfl⟩
      rw [hbb]
      refine SL.y (op_not rfl) rfl rfl ?_
      refine SL.nil ?_
      refine T.condF rfl ?_
      refine T.skip ?_
      refine T.seq ?_
      refine T.region ?_
      refine SL.x (op_buildSlice Tryd.underlying45 bs64 (qs := []) rfl rfl rfl rfl rfl) rfl rfl ?_
      rintro _ _ _ ⟨B11, rfl, rfl, rfl⟩
      refine SL.y (op_fieldAddr fa47_0 rfl) rfl rfl ?_
      first | refine SL.y (op_load ty45 rfl (by repeat (first | exact AtO.here | apply AtO.there)) rfl) rfl rfl ?_ | refine SL.y (op_loadX ty45 rfl (by assumption) rfl) rfl rfl ?_
      -- op
      refine SL.x (op_append sl45 rfl rfl (by repeat (first | exact AtO.here | apply AtO.there)) (by rfl) (by rfl) (Nat.le_refl _) (by decide) (Src.ofExt (hB.mono hX1) (by simp)) (by simp [Value.oneCell']) (by decide) (by decide)) rfl rfl ?_
      rintro _ _ _ ⟨b2, cap2, rfl, rfl, rfl, hc2, hm2⟩
      refine SL.y (op_assign rfl) rfl rfl ?_
      refine SL.nil ?_
      refine T.seq ?_
      refine T.draw (by kernel_rfl) 10 [.t 0, .t 1, .t 2, .t 3, .t 4, .t 5, .t 6, .t 7, .t 8, .t 9] (by kernel_rfl) ?_
      refine SD.take rfl panicBody (op_move rfl) rfl rfl ?_
      refine SD.take rfl panicBody (op_move rfl) rfl rfl ?_
      first | refine SD.take rfl panicBody (op_quo0 (q := 64) rfl rfl rfl (by omega) (by omega)) rfl rfl ?_ | refine SD.take rfl panicBody (op_quoN (q := 64) rfl rfl rfl (by omega) (by decide)) rfl rfl ?_ | refine SD.take rfl panicBody (op_quo rfl rfl (by omega) (by omega) (by omega)) rfl rfl ?_
      first | refine SD.take rfl panicBody (op_indexN Tryd.underlying45 ty64 rfl rfl (by omega)) rfl rfl ?_ | refine SD.take rfl panicBody (op_index Tryd.underlying45 ty64 rfl rfl (by omega) (by omega)) rfl rfl ?_
      first | refine SD.take rfl panicBody (op_load ty64 rfl (by repeat (first | exact AtO.here | apply AtO.there)) rfl) rfl rfl ?_ | refine SD.take rfl panicBody (op_loadX ty64 rfl (by assumption) rfl) rfl rfl ?_
      refine SD.take rfl panicBody (op_move rfl) rfl rfl ?_
      first | refine SD.take rfl panicBody (op_remS (q := 64) rfl rfl rfl (by omega)) rfl rfl ?_ | refine SD.take rfl panicBody (op_remN (q := 64) rfl rfl rfl (by decide)) rfl rfl ?_ | refine SD.take rfl panicBody (op_rem rfl rfl (by omega) (by omega)) rfl rfl ?_
      first | refine SD.take rfl panicBody (op_bit rfl rfl (by omega)) rfl rfl ?_ | refine SD.take rfl panicBody (op_shl rfl rfl) rfl rfl ?_
      refine SD.take rfl panicBody (op_andNot rfl rfl (by first | omega | assumption | decide | exact Nat.lt_of_le_of_lt (Nat.shiftRight_le ..) (by first | omega | assumption) | exact Nat.lt_of_le_of_lt Nat.and_le_left (by first | omega | assumption) | exact Nat.lt_of_le_of_lt Nat.and_le_right (by first | omega | decide)) (by first | omega | assumption | decide | exact Nat.lt_of_le_of_lt (Nat.shiftRight_le ..) (by first | omega | assumption) | exact Nat.lt_of_le_of_lt Nat.and_le_left (by first | omega | assumption) | exact Nat.lt_of_le_of_lt Nat.and_le_right (by first | omega | decide))) rfl rfl ?_
      first | refine SD.take rfl panicBody (op_indexN Tryd.underlying45 ty64 rfl rfl (by omega)) rfl rfl ?_ | refine SD.take rfl panicBody (op_index Tryd.underlying45 ty64 rfl rfl (by omega) (by omega)) rfl rfl ?_
      refine SD.nil ?_
      show SL _ _ _ _ _ _ _ [_] _ _ _
      refine SL.x (op_store ty64 rfl rfl (by repeat (first | exact AtO.here | apply AtO.there)) rfl rfl rfl) rfl rfl ?_
      rintro _ _ _ ⟨rfl, rfl⟩
      refine SL.nil ?_
      refine T.seq ?_
      refine T.region ?_
      refine SL.y (op_move rfl) rfl rfl ?_
      -- op
      refine T.pubAt _ (by repeat (first | exact AtO.here | apply AtO.there)) ?_
      intro X2 hX2 hB2 _
      refine SL.x (op_callF en64 (vs := [_]) rfl (trim1_spec hl hB2 (by omega))) rfl rfl ?_
      rintro _ _ X3 ⟨rfl, hX3, hS⟩
      obtain ⟨A2, l2, c2, rfl⟩ := hS.form
      refine SL.x (op_store ty47 rfl rfl (by repeat (first | exact AtO.here | apply AtO.there)) rfl rfl rfl) rfl rfl ?_
      rintro _ _ _ ⟨rfl, rfl⟩
      refine SL.nil ?_
      -- ret
      refine T.ret1 rfl (ResIs.cell rfl ty47 (by repeat (first | exact AtO.here | apply AtO.there)) rfl) ?_
      exact hS
  · have hbb : hasB m (i : Int) = false := by rw [hasB_nat]; simpa using hb
    obtain ⟨A, l, c, rfl⟩ := h.form
    refine Spec.enter Tryd.func88 rfl Tryd.ntmps88 rfl ?_
    intro w0 hw0
    refine T.seq ?_
    refine T.region ?_
    refine SL.x (op_box rfl) rfl rfl ?_
    rintro _ _ _ ⟨B2, rfl, rfl, rfl⟩
    refine SL.x (op_alloc z47) rfl rfl ?_
    rintro _ _ _ ⟨B4, rfl, rfl, rfl⟩
    refine SL.nil ?_
    refine T.seq ?_
    refine T.seq ?_
    refine T.region ?_
    first | refine SL.y (op_load ty47 rfl (by repeat (first | exact AtO.here | apply AtO.there)) rfl) rfl rfl ?_ | refine SL.y (op_loadX ty47 rfl (by assumption) rfl) rfl rfl ?_
    refine SL.y (op_move rfl) rfl rfl ?_
    -- op
    refine SL.x (op_callF en32 (vs := [_, _]) rfl (has_spec h _)) rfl rfl ?_
    rintro _ _ X1 ⟨rfl, hX1, rfl⟩
    rw [hbb]
    refine SL.y (op_not rfl) rfl rfl ?_
    refine SL.nil ?_
    refine T.condT rfl ?_
    refine T.seq ?_
    refine T.region ?_
    first | refine SL.y (op_load ty47 rfl (by repeat (first | exact AtO.here | apply AtO.there)) rfl) rfl rfl ?_ | refine SL.y (op_loadX ty47 rfl (by assumption) rfl) rfl rfl ?_
    refine SL.x (op_store ty47 rfl rfl (by repeat (first | exact AtO.here | apply AtO.there)) rfl rfl rfl) rfl rfl ?_
    rintro _ _ _ ⟨rfl, rfl⟩
    refine SL.nil ?_
    -- ret
    refine T.ret1 rfl (ResIs.cell rfl ty47 (by repeat (first | exact AtO.here | apply AtO.there)) rfl) ?_
    have e : m &&& (18446744073709551615 - 2 ^ i) = m := by
      apply Nat.eq_of_testBit_eq
      intro j
      rw [Nat.testBit_and, show 18446744073709551615 - 2 ^ i = 2 ^ 64 - (2 ^ i + 1) by omega, Nat.testBit_two_pow_sub_succ (by simpa using hp), Nat.testBit_two_pow]
      by_cases hj : m.testBit j = true
      · have h64 : j < 64 := by
          rcases Nat.lt_or_ge j 64 with h | h
          · exact h
          · rw [testBit_big hlt h] at hj; cases hj
        have hne : i ≠ j := fun e => hb (e ▸ hj)
        simp [hj, h64, hne]
      · simp [hj]
    rw [e]
    exact h.mono hX1

theorem below_spec {X : PMap} (k : Nat) (hk : k < 64) : Spec Tryd.prog 74 [.int .i64 (k : Int)] X fun u X' => SetR X' u (2 ^ k - 1) := by
  have hp : 2 ^ k < 18446744073709551616 := Nat.pow_lt_pow_right (a := 2) (by omega) hk
  have hp0 : 0 < 2 ^ k := Nat.pow_pos (by omega)
  by_cases h0 : k = 0
  · subst h0
    refine Spec.enter Tryd.func74 rfl Tryd.ntmps74 rfl ?_
    intro w0 hw0
    refine T.seq ?_
    refine T.region ?_
    refine SL.x (op_alloc z47) rfl rfl ?_
    rintro _ _ _ ⟨B2, rfl, rfl, rfl⟩
    refine SL.nil ?_
    refine T.seq ?_
    refine T.region ?_
    refine SL.y (op_move rfl) rfl rfl ?_
    first | refine SL.y (op_maxL rfl rfl (by omega)) rfl rfl ?_ | refine SL.y (op_maxR rfl rfl (by omega)) rfl rfl ?_ | refine SL.y (op_maxN rfl rfl) rfl rfl ?_ | refine SL.y (op_max rfl rfl rfl) rfl rfl ?_
    first | refine SL.y (op_minL rfl rfl (by omega)) rfl rfl ?_ | refine SL.y (op_minR rfl rfl (by omega)) rfl rfl ?_ | refine SL.y (op_minN rfl rfl) rfl rfl ?_ | refine SL.y (op_min rfl rfl rfl) rfl rfl ?_
    refine SL.y (op_assign rfl) rfl rfl ?_
    refine SL.nil ?_
    refine T.seq ?_
    refine T.region ?_
    refine SL.y (op_move rfl) rfl rfl ?_
    first | refine SL.y (op_addN (q := 63) rfl rfl (by omega)) rfl rfl ?_ | refine SL.y (op_add rfl rfl (by omega) (by omega)) rfl rfl ?_ | refine SL.y (op_addW rfl rfl) rfl rfl ?_
    first | refine SL.y (op_quo0 (q := 64) rfl rfl rfl (by omega) (by omega)) rfl rfl ?_ | refine SL.y (op_quoN (q := 64) rfl rfl rfl (by omega) (by decide)) rfl rfl ?_ | refine SL.y (op_quo rfl rfl (by omega) (by omega) (by omega)) rfl rfl ?_
    refine SL.x (op_make Tryd.underlying45 mk45 rfl rfl rfl (Nat.le_refl _) (by omega) (by omega)) rfl rfl ?_
    rintro _ _ _ ⟨B11, rfl, rfl, rfl⟩
    refine SL.y (op_assign rfl) rfl rfl ?_
    refine SL.nil ?_
    refine T.seq ?_
    refine T.seq ?_
    refine T.region ?_
    refine SL.y (op_move rfl) rfl rfl ?_
    refine SL.y (op_lenS Tryd.underlying45 rfl) rfl rfl ?_
    refine SL.y (op_move (v := .int .i64 ((0 : Nat) : Int)) rfl) rfl rfl ?_
    refine SL.nil ?_
    refine T.block ?_
    -- loop live [0, 2, 3, 13, 14]
    refine T.unrollStart 1 ?_
    refine T.unroll ?_
    refine T.seq ?_
    refine T.region ?_
    first | refine SL.y (op_lssT rfl rfl (by omega)) rfl rfl ?_ | refine SL.y (op_lssF rfl rfl (by omega)) rfl rfl ?_ | refine SL.y (op_lss rfl rfl) rfl rfl ?_
    refine SL.nil ?_
    refine T.seq ?_
    refine T.condF rfl ?_
    refine T.exit (T.exitCode (T.exitMore (T.exitBlk ?_)))
    refine T.seq ?_
    refine T.seq ?_
    refine T.region ?_
    refine SL.y (op_move rfl) rfl rfl ?_
    first | refine SL.y (op_remS (q := 64) rfl rfl rfl (by omega)) rfl rfl ?_ | refine SL.y (op_remN (q := 64) rfl rfl rfl (by decide)) rfl rfl ?_ | refine SL.y (op_rem rfl rfl (by omega) (by omega)) rfl rfl ?_
    first | refine SL.y (op_gtrT rfl rfl (by omega)) rfl rfl ?_ | refine SL.y (op_gtrF rfl rfl (by omega)) rfl rfl ?_ | refine SL.y (op_gtr rfl rfl) rfl rfl ?_
    refine SL.nil ?_
    refine T.condF rfl ?_
    refine T.skip ?_
    refine T.seq ?_
    refine T.region ?_
    refine SL.y (op_move rfl) rfl rfl ?_
    refine SL.y (op_build st47 (qs := [(0, _)]) rfl rfl) rfl rfl ?_
    refine SL.x (op_store ty47 rfl rfl (by repeat (first | exact AtO.here | apply AtO.there)) rfl rfl rfl) rfl rfl ?_
    rintro _ _ _ ⟨rfl, rfl⟩
    refine SL.nil ?_
    -- ret
    refine T.ret1 rfl (ResIs.cell rfl ty47 (by repeat (first | exact AtO.here | apply AtO.there)) rfl) ?_
    exact SetR.zero
  · have e : (k + 63) / 64 = 1 := by omega
    refine Spec.enter Tryd.func74 rfl Tryd.ntmps74 rfl ?_
    intro w0 hw0
    refine T.seq ?_
    refine T.region ?_
    refine SL.x (op_alloc z47) rfl rfl ?_
    rintro _ _ _ ⟨B2, rfl, rfl, rfl⟩
    refine SL.nil ?_
    refine T.seq ?_
    refine T.region ?_
    refine SL.y (op_move rfl) rfl rfl ?_
    first | refine SL.y (op_maxL rfl rfl (by omega)) rfl rfl ?_ | refine SL.y (op_maxR rfl rfl (by omega)) rfl rfl ?_ | refine SL.y (op_maxN rfl rfl) rfl rfl ?_ | refine SL.y (op_max rfl rfl rfl) rfl rfl ?_
    first | refine SL.y (op_minL rfl rfl (by omega)) rfl rfl ?_ | refine SL.y (op_minR rfl rfl (by omega)) rfl rfl ?_ | refine SL.y (op_minN rfl rfl) rfl rfl ?_ | refine SL.y (op_min rfl rfl rfl) rfl rfl ?_
    refine SL.y (op_assign rfl) rfl rfl ?_
    refine SL.nil ?_
    refine T.seq ?_
    refine T.region ?_
    refine SL.y (op_move rfl) rfl rfl ?_
    first | refine SL.y (op_addN (q := 63) rfl rfl (by omega)) rfl rfl ?_ | refine SL.y (op_add rfl rfl (by omega) (by omega)) rfl rfl ?_ | refine SL.y (op_addW rfl rfl) rfl rfl ?_
    first | refine SL.y (op_quo0 (q := 64) rfl rfl rfl (by omega) (by omega)) rfl rfl ?_ | refine SL.y (op_quoN (q := 64) rfl rfl rfl (by omega) (by decide)) rfl rfl ?_ | refine SL.y (op_quo rfl rfl (by omega) (by omega) (by omega)) rfl rfl ?_
    -- to 11: op
    rw [e]
    refine SL.x (op_make (l := 1) (c := 1) Tryd.underlying45 mk45 rfl rfl rfl (Nat.le_refl _) (by omega) (by omega)) rfl rfl ?_
    rintro _ _ _ ⟨b1, rfl, rfl, rfl⟩
    refine SL.y (op_assign rfl) rfl rfl ?_
    refine SL.nil ?_
    refine T.seq ?_
    refine T.seq ?_
    refine T.region ?_
    refine SL.y (op_move rfl) rfl rfl ?_
    refine SL.y (op_lenS Tryd.underlying45 rfl) rfl rfl ?_
    refine SL.y (op_move (v := .int .i64 ((0 : Nat) : Int)) rfl) rfl rfl ?_
    refine SL.nil ?_
    refine T.block ?_
    -- loop live [0, 2, 3, 13, 14]
    refine T.unrollStart 2 ?_
    refine T.unroll ?_
    refine T.seq ?_
    refine T.region ?_
    first | refine SL.y (op_lssT rfl rfl (by omega)) rfl rfl ?_ | refine SL.y (op_lssF rfl rfl (by omega)) rfl rfl ?_ | refine SL.y (op_lss rfl rfl) rfl rfl ?_
    refine SL.nil ?_
    refine T.seq ?_
    refine T.condT rfl ?_
    refine T.skip ?_
    refine T.seq ?_
    refine T.block ?_
    refine T.seq ?_
    refine T.region ?_
    refine SL.y (op_move rfl) rfl rfl ?_
    refine SL.y (op_assign rfl) rfl rfl ?_
    refine SL.nil ?_
    refine T.region ?_
    refine SL.y (op_move rfl) rfl rfl ?_
    refine SL.y (op_move rfl) rfl rfl ?_
    first | refine SL.y (op_indexN Tryd.underlying45 ty64 rfl rfl (by omega)) rfl rfl ?_ | refine SL.y (op_index Tryd.underlying45 ty64 rfl rfl (by omega) (by omega)) rfl rfl ?_
    refine SL.x (op_store ty64 rfl rfl (by repeat (first | exact AtO.here | apply AtO.there)) rfl rfl rfl) rfl rfl ?_
    rintro _ _ _ ⟨rfl, rfl⟩
    refine SL.nil ?_
    refine T.blk ?_
    refine T.region ?_
    first | refine SL.y (op_addN (q := 1) rfl rfl (by omega)) rfl rfl ?_ | refine SL.y (op_add rfl rfl (by omega) (by omega)) rfl rfl ?_ | refine SL.y (op_addW rfl rfl) rfl rfl ?_
    refine SL.y (op_move rfl) rfl rfl ?_
    refine SL.nil ?_
    refine T.unroll ?_
    refine T.seq ?_
    refine T.region ?_
    first | refine SL.y (op_lssT rfl rfl (by omega)) rfl rfl ?_ | refine SL.y (op_lssF rfl rfl (by omega)) rfl rfl ?_ | refine SL.y (op_lss rfl rfl) rfl rfl ?_
    refine SL.nil ?_
    refine T.seq ?_
    refine T.condF rfl ?_
    refine T.exit (T.exitCode (T.exitMore (T.exitBlk ?_)))
    refine T.seq ?_
    refine T.seq ?_
    refine T.region ?_
    refine SL.y (op_move rfl) rfl rfl ?_
    first | refine SL.y (op_remS (q := 64) rfl rfl rfl (by omega)) rfl rfl ?_ | refine SL.y (op_remN (q := 64) rfl rfl rfl (by decide)) rfl rfl ?_ | refine SL.y (op_rem rfl rfl (by omega) (by omega)) rfl rfl ?_
    first | refine SL.y (op_gtrT rfl rfl (by omega)) rfl rfl ?_ | refine SL.y (op_gtrF rfl rfl (by omega)) rfl rfl ?_ | refine SL.y (op_gtr rfl rfl) rfl rfl ?_
    refine SL.nil ?_
    refine T.condT rfl ?_
    refine T.region ?_
    refine SL.y (op_move rfl) rfl rfl ?_
    refine SL.y (op_move rfl) rfl rfl ?_
    refine SL.y (op_lenS Tryd.underlying45 rfl) rfl rfl ?_
    first | refine SL.y (op_subN (q := 1) rfl rfl (by omega) (by omega)) rfl rfl ?_ | refine SL.y (op_sub rfl rfl (by omega) (by omega)) rfl rfl ?_ | refine SL.y (op_subW rfl rfl) rfl rfl ?_
    refine SL.y (op_move rfl) rfl rfl ?_
    first | refine SL.y (op_remS (q := 64) rfl rfl rfl (by omega)) rfl rfl ?_ | refine SL.y (op_remN (q := 64) rfl rfl rfl (by decide)) rfl rfl ?_ | refine SL.y (op_rem rfl rfl (by omega) (by omega)) rfl rfl ?_
    first | refine SL.y (op_bit rfl rfl (by omega)) rfl rfl ?_ | refine SL.y (op_shl rfl rfl) rfl rfl ?_
    first | refine SL.y (op_subU (q := 1) rfl rfl (by omega) (by omega)) rfl rfl ?_ | refine SL.y (op_subW rfl rfl) rfl rfl ?_
    first | refine SL.y (op_indexN Tryd.underlying45 ty64 rfl rfl (by omega)) rfl rfl ?_ | refine SL.y (op_index Tryd.underlying45 ty64 rfl rfl (by omega) (by omega)) rfl rfl ?_
    refine SL.x (op_store ty64 rfl rfl (by repeat (first | exact AtO.here | apply AtO.there)) rfl rfl rfl) rfl rfl ?_
    rintro _ _ _ ⟨rfl, rfl⟩
    refine SL.nil ?_
    refine T.seq ?_
    refine T.region ?_
    refine SL.y (op_move rfl) rfl rfl ?_
    refine SL.y (op_build st47 (qs := [(0, _)]) rfl rfl) rfl rfl ?_
    refine SL.x (op_store ty47 rfl rfl (by repeat (first | exact AtO.here | apply AtO.there)) rfl rfl rfl) rfl rfl ?_
    rintro _ _ _ ⟨rfl, rfl⟩
    refine SL.nil ?_
    -- ret
    refine T.pub _ (by repeat (first | exact AtO.here | apply AtO.there)) ?_
    intro X1 hX1 hB1 _
    refine T.ret1 rfl (ResIs.cell rfl ty47 (by repeat (first | exact AtO.here | apply AtO.there)) rfl) ?_
    have h1 : 2 ^ k ≠ 1 := fun e => h0 (by simpa using e)
    exact SetR.one (by omega) (by omega) hB1
end Go.Proofs.YtoheffglppbcbaaDoor
