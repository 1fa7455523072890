/- SETS OF SMALL NUMBERS (package bits), at sets below 64: what each function returns. -/
import Derived.Test.YtkmnlogacfkjmaaDoorFacts
namespace Go.Proofs.YtkmnlogacfkjmaaDoor
section
set_option maxRecDepth 100000
theorem en53 : Enters Tryd.prog 53 := enters_mk Tryd.func53 (by kernel_rfl) rfl
theorem fa39_0 : FAdr Tryd.prog 39 0 0 := fadr_mk Tryd.underlying39 rfl rfl (by kernel_rfl)
theorem ty37 : Ty Tryd.prog 37 false 1 := ⟨⟨_, Tryd.underlying37, rfl⟩, by kernel_rfl⟩
theorem ty39 : Ty Tryd.prog 39 true 1 := ⟨⟨_, Tryd.underlying39, rfl⟩, by kernel_rfl⟩
theorem ty95 : Ty Tryd.prog 95 false 1 := ⟨⟨_, Tryd.underlying95, rfl⟩, by kernel_rfl⟩
end

/-- v is the set with the mask m: no word, or one word that is not zero. -/
def SetR (X : PMap) (v : Value) (m : Nat) : Prop :=
  (m = 0 ∧ ∃ A c, v = .agg #[.slice A 0 c]) ∨
  (0 < m ∧ m < 18446744073709551616 ∧ ∃ b c rest, v = .agg #[.slice (some ⟨b, 0, none⟩) 1 c] ∧ Blk X b (.int .u64 m :: rest))
theorem SetR.mono {X X' : PMap} {v : Value} {m : Nat} (h : SetR X v m) (hX : X.le X') : SetR X' v m := by
  rcases h with h | ⟨h0, h1, b, c, r, hv, hb⟩
  · exact .inl h
  · exact .inr ⟨h0, h1, b, c, r, hv, hb.mono hX⟩

theorem SetR.form {X : PMap} {v : Value} {m : Nat} (h : SetR X v m) : ∃ A l c, v = .agg #[.slice A l c] := by
  rcases h with ⟨_, A, c, rfl⟩ | ⟨_, _, b, c, _, rfl, _⟩
  · exact ⟨A, 0, c, rfl⟩
  · exact ⟨_, 1, c, rfl⟩
theorem SetR.lt {X : PMap} {v : Value} {m : Nat} (h : SetR X v m) : m < 18446744073709551616 := by
  rcases h with ⟨rfl, _⟩ | ⟨_, h, _⟩ <;> omega

theorem word_spec {X : PMap} {v : Value} {m : Nat} (h : SetR X v m) (k w : Nat) (hw : (if k = 0 then m else 0) = w) : Spec Tryd.prog 53 [v, .int .i64 (k : Int)] X fun u _ => u = .int .u64 (w : Int) := by
  subst hw
  rcases h with ⟨rfl, A, c, rfl⟩ | ⟨h0, h1, b, c, rest, rfl, hB⟩
  · refine Spec.enter Tryd.func53 rfl Tryd.ntmps53 rfl ?_
    intro w0 hw0
    refine T.seq ?_
    refine T.region ?_
    refine SL.x (op_box rfl) rfl rfl ?_
    rintro _ _ _ ⟨B2, rfl, rfl, rfl⟩
    refine SL.y (op_assign (v := .int .u64 ((0 : Nat) : Int)) rfl) rfl rfl ?_
    refine SL.nil ?_
    refine T.seq ?_
    refine T.seq ?_
    refine T.region ?_
    refine SL.y (op_move rfl) rfl rfl ?_
    refine SL.y (op_fieldAddr fa39_0 rfl) rfl rfl ?_
    first | refine SL.y (op_load ty37 rfl (by repeat (first | exact AtO.here | apply AtO.there)) rfl) rfl rfl ?_ | refine SL.y (op_loadX ty37 rfl (by assumption) rfl) rfl rfl ?_
    refine SL.y (op_lenS Tryd.underlying37 rfl) rfl rfl ?_
    first | refine SL.y (op_lssT rfl rfl (by omega)) rfl rfl ?_ | refine SL.y (op_lssF rfl rfl (by omega)) rfl rfl ?_ | refine SL.y (op_lss rfl rfl) rfl rfl ?_
    refine SL.nil ?_
    refine T.condF rfl ?_
    refine T.skip ?_
    refine T.seq ?_
    refine T.region ?_
    refine SL.y (op_assign (v := .int .u64 ((0 : Nat) : Int)) rfl) rfl rfl ?_
    refine SL.nil ?_
    -- ret
    refine T.ret1 rfl (ResIs.tmp rfl) ?_
    simp
  · by_cases hk : k = 0
    · subst hk
      refine Spec.enter Tryd.func53 rfl Tryd.ntmps53 rfl ?_
      intro w0 hw0
      refine T.seq ?_
      refine T.region ?_
      refine SL.x (op_box rfl) rfl rfl ?_
      rintro _ _ _ ⟨B2, rfl, rfl, rfl⟩
      refine SL.y (op_assign (v := .int .u64 ((0 : Nat) : Int)) rfl) rfl rfl ?_
      refine SL.nil ?_
      refine T.seq ?_
      refine T.seq ?_
      refine T.region ?_
      refine SL.y (op_move rfl) rfl rfl ?_
      refine SL.y (op_fieldAddr fa39_0 rfl) rfl rfl ?_
      first | refine SL.y (op_load ty37 rfl (by repeat (first | exact AtO.here | apply AtO.there)) rfl) rfl rfl ?_ | refine SL.y (op_loadX ty37 rfl (by assumption) rfl) rfl rfl ?_
      refine SL.y (op_lenS Tryd.underlying37 rfl) rfl rfl ?_
      first | refine SL.y (op_lssT rfl rfl (by omega)) rfl rfl ?_ | refine SL.y (op_lssF rfl rfl (by omega)) rfl rfl ?_ | refine SL.y (op_lss rfl rfl) rfl rfl ?_
      refine SL.nil ?_
      refine T.condT rfl ?_
      refine T.seq ?_
      refine T.region ?_
      refine SL.y (op_fieldAddr fa39_0 rfl) rfl rfl ?_
      first | refine SL.y (op_load ty37 rfl (by repeat (first | exact AtO.here | apply AtO.there)) rfl) rfl rfl ?_ | refine SL.y (op_loadX ty37 rfl (by assumption) rfl) rfl rfl ?_
      refine SL.y (op_move rfl) rfl rfl ?_
      first | refine SL.y (op_indexN Tryd.underlying37 ty95 rfl rfl (by omega)) rfl rfl ?_ | refine SL.y (op_index Tryd.underlying37 ty95 rfl rfl (by omega) (by omega)) rfl rfl ?_
      first | refine SL.y (op_load ty95 rfl (by repeat (first | exact AtO.here | apply AtO.there)) rfl) rfl rfl ?_ | refine SL.y (op_loadX ty95 rfl (by assumption) rfl) rfl rfl ?_
      refine SL.y (op_assign rfl) rfl rfl ?_
      refine SL.nil ?_
      -- ret
      refine T.ret1 rfl (ResIs.tmp rfl) ?_
      simp
    · refine Spec.enter Tryd.func53 rfl Tryd.ntmps53 rfl ?_
      intro w0 hw0
      refine T.seq ?_
      refine T.region ?_
      refine SL.x (op_box rfl) rfl rfl ?_
      rintro _ _ _ ⟨B2, rfl, rfl, rfl⟩
      refine SL.y (op_assign (v := .int .u64 ((0 : Nat) : Int)) rfl) rfl rfl ?_
      refine SL.nil ?_
      refine T.seq ?_
      refine T.seq ?_
      refine T.region ?_
      refine SL.y (op_move rfl) rfl rfl ?_
      refine SL.y (op_fieldAddr fa39_0 rfl) rfl rfl ?_
      first | refine SL.y (op_load ty37 rfl (by repeat (first | exact AtO.here | apply AtO.there)) rfl) rfl rfl ?_ | refine SL.y (op_loadX ty37 rfl (by assumption) rfl) rfl rfl ?_
      refine SL.y (op_lenS Tryd.underlying37 rfl) rfl rfl ?_
      first | refine SL.y (op_lssT rfl rfl (by omega)) rfl rfl ?_ | refine SL.y (op_lssF rfl rfl (by omega)) rfl rfl ?_ | refine SL.y (op_lss rfl rfl) rfl rfl ?_
      refine SL.nil ?_
      refine T.condF rfl ?_
      refine T.skip ?_
      refine T.seq ?_
      refine T.region ?_
      refine SL.y (op_assign (v := .int .u64 ((0 : Nat) : Int)) rfl) rfl rfl ?_
      refine SL.nil ?_
      -- ret
      refine T.ret1 rfl (ResIs.tmp rfl) ?_
      simp [hk]

/-- Is i a member of the set with the mask m? -/
def hasB (m : Nat) (i : Int) : Bool := decide (0 ≤ i) && m.testBit i.toNat
theorem testBit_big {m k : Nat} (h : m < 18446744073709551616) (hk : 64 ≤ k) : m.testBit k = false := by
  exact Nat.testBit_lt_two_pow (Nat.lt_of_lt_of_le (show m < 2 ^ 64 from h) (Nat.pow_le_pow_right (by omega) hk))
theorem shr_and_one (m k : Nat) : (m >>> k &&& 1) = if m.testBit k then 1 else 0 := by
  rw [Nat.and_one_is_mod, Nat.testBit_eq_decide_div_mod_eq, Nat.shiftRight_eq_div_pow]
  have := Nat.mod_two_eq_zero_or_one (m / 2 ^ k)
  rcases this with h | h <;> simp [h]

theorem has_spec {X : PMap} {v : Value} {m : Nat} (h : SetR X v m) (i : Int) : Spec Tryd.prog 21 [v, .int .i64 i] X fun u _ => u = .bool (hasB m i) := by
  have hlt := h.lt
  obtain ⟨A, l, c, rfl⟩ := h.form
  by_cases h0 : i < 0
  · refine Spec.enter Tryd.func21 rfl Tryd.ntmps21 rfl ?_
    intro w0 hw0
    refine T.seq ?_
    refine T.region ?_
    refine SL.x (op_box rfl) rfl rfl ?_
    rintro _ _ _ ⟨B2, rfl, rfl, rfl⟩
    refine SL.y (op_assign rfl) rfl rfl ?_
    refine SL.nil ?_
    refine T.seq ?_
    refine T.region ?_
    refine SL.y (op_move rfl) rfl rfl ?_
    first | refine SL.y (op_geqT rfl rfl (by omega)) rfl rfl ?_ | refine SL.y (op_geqF rfl rfl (by omega)) rfl rfl ?_ | refine SL.y (op_geq rfl rfl) rfl rfl ?_
    refine SL.y (op_move rfl) rfl rfl ?_
    first | refine SL.skip rfl rfl ?_ | refine SL.y (op_move rfl) rfl rfl ?_
    first | refine SL.skip rfl rfl ?_ | refine SL.y (op_leqT rfl rfl (by omega)) rfl rfl ?_ | refine SL.y (op_leqF rfl rfl (by omega)) rfl rfl ?_ | refine SL.y (op_leq rfl rfl) rfl rfl ?_
    first | refine SL.y (op_pickT rfl rfl) rfl rfl ?_ | refine SL.y (op_pickF rfl rfl) rfl rfl ?_ | refine SL.y (op_pickB rfl rfl rfl) rfl rfl ?_
    refine SL.y (op_move rfl) rfl rfl ?_
    first | refine SL.skip rfl rfl ?_ | refine SL.y (op_load ty39 rfl (by repeat (first | exact AtO.here | apply AtO.there)) rfl) rfl rfl ?_ | refine SL.y (op_loadX ty39 rfl (by assumption) rfl) rfl rfl ?_
    first | refine SL.skip rfl rfl ?_ | refine SL.y (op_move rfl) rfl rfl ?_
    first | refine SL.skip rfl rfl ?_ | refine SL.y (op_quo0 (q := 64) rfl rfl rfl (by omega) (by omega)) rfl rfl ?_ | refine SL.y (op_quoN (q := 64) rfl rfl rfl (by omega) (by decide)) rfl rfl ?_ | refine SL.y (op_quo rfl rfl (by omega) (by omega) (by omega)) rfl rfl ?_
    -- op
    refine SL.skip rfl rfl ?_
    first | refine SL.skip rfl rfl ?_ | refine SL.y (op_move rfl) rfl rfl ?_
    first | refine SL.skip rfl rfl ?_ | refine SL.y (op_remS (q := 64) rfl rfl rfl (by omega)) rfl rfl ?_ | refine SL.y (op_remN (q := 64) rfl rfl rfl (by decide)) rfl rfl ?_ | refine SL.y (op_rem rfl rfl (by omega) (by omega)) rfl rfl ?_
    first | refine SL.skip rfl rfl ?_ | refine SL.y (op_shrN rfl rfl (by omega)) rfl rfl ?_ | refine SL.y (op_shr rfl rfl) rfl rfl ?_
    first | refine SL.skip rfl rfl ?_ | refine SL.y (op_and (q := 1) rfl rfl (by first | omega | assumption | decide | exact Nat.lt_of_le_of_lt (Nat.shiftRight_le ..) (by first | omega | assumption) | exact Nat.lt_of_le_of_lt Nat.and_le_left (by first | omega | assumption) | exact Nat.lt_of_le_of_lt Nat.and_le_right (by first | omega | decide)) (by first | omega | assumption | decide | exact Nat.lt_of_le_of_lt (Nat.shiftRight_le ..) (by first | omega | assumption) | exact Nat.lt_of_le_of_lt Nat.and_le_left (by first | omega | assumption) | exact Nat.lt_of_le_of_lt Nat.and_le_right (by first | omega | decide))) rfl rfl ?_
    first | refine SL.skip rfl rfl ?_ | refine SL.y (op_eqlT rfl rfl (by omega)) rfl rfl ?_ | refine SL.y (op_eqlF rfl rfl (by omega)) rfl rfl ?_ | refine SL.y (op_eql rfl rfl) rfl rfl ?_
    first | refine SL.y (op_pickT rfl rfl) rfl rfl ?_ | refine SL.y (op_pickF rfl rfl) rfl rfl ?_ | refine SL.y (op_pickB rfl rfl rfl) rfl rfl ?_
    refine SL.y (op_assign rfl) rfl rfl ?_
    refine SL.nil ?_
    -- ret
    refine T.ret1 rfl (ResIs.tmp rfl) ?_
    simp [hasB]; omega
  · obtain ⟨k, rfl⟩ := Int.eq_ofNat_of_zero_le (show 0 ≤ i by omega)
    by_cases h1 : 4095 < k
    · refine Spec.enter Tryd.func21 rfl Tryd.ntmps21 rfl ?_
      intro w0 hw0
      refine T.seq ?_
      refine T.region ?_
      refine SL.x (op_box rfl) rfl rfl ?_
      rintro _ _ _ ⟨B2, rfl, rfl, rfl⟩
      refine SL.y (op_assign rfl) rfl rfl ?_
      refine SL.nil ?_
      refine T.seq ?_
      refine T.region ?_
      refine SL.y (op_move rfl) rfl rfl ?_
      first | refine SL.y (op_geqT rfl rfl (by omega)) rfl rfl ?_ | refine SL.y (op_geqF rfl rfl (by omega)) rfl rfl ?_ | refine SL.y (op_geq rfl rfl) rfl rfl ?_
      refine SL.y (op_move rfl) rfl rfl ?_
      first | refine SL.skip rfl rfl ?_ | refine SL.y (op_move rfl) rfl rfl ?_
      first | refine SL.skip rfl rfl ?_ | refine SL.y (op_leqT rfl rfl (by omega)) rfl rfl ?_ | refine SL.y (op_leqF rfl rfl (by omega)) rfl rfl ?_ | refine SL.y (op_leq rfl rfl) rfl rfl ?_
      first | refine SL.y (op_pickT rfl rfl) rfl rfl ?_ | refine SL.y (op_pickF rfl rfl) rfl rfl ?_ | refine SL.y (op_pickB rfl rfl rfl) rfl rfl ?_
      refine SL.y (op_move rfl) rfl rfl ?_
      first | refine SL.skip rfl rfl ?_ | refine SL.y (op_load ty39 rfl (by repeat (first | exact AtO.here | apply AtO.there)) rfl) rfl rfl ?_ | refine SL.y (op_loadX ty39 rfl (by assumption) rfl) rfl rfl ?_
      first | refine SL.skip rfl rfl ?_ | refine SL.y (op_move rfl) rfl rfl ?_
      first | refine SL.skip rfl rfl ?_ | refine SL.y (op_quo0 (q := 64) rfl rfl rfl (by omega) (by omega)) rfl rfl ?_ | refine SL.y (op_quoN (q := 64) rfl rfl rfl (by omega) (by decide)) rfl rfl ?_ | refine SL.y (op_quo rfl rfl (by omega) (by omega) (by omega)) rfl rfl ?_
      -- op
      refine SL.skip rfl rfl ?_
      first | refine SL.skip rfl rfl ?_ | refine SL.y (op_move rfl) rfl rfl ?_
      first | refine SL.skip rfl rfl ?_ | refine SL.y (op_remS (q := 64) rfl rfl rfl (by omega)) rfl rfl ?_ | refine SL.y (op_remN (q := 64) rfl rfl rfl (by decide)) rfl rfl ?_ | refine SL.y (op_rem rfl rfl (by omega) (by omega)) rfl rfl ?_
      first | refine SL.skip rfl rfl ?_ | refine SL.y (op_shrN rfl rfl (by omega)) rfl rfl ?_ | refine SL.y (op_shr rfl rfl) rfl rfl ?_
      first | refine SL.skip rfl rfl ?_ | refine SL.y (op_and (q := 1) rfl rfl (by first | omega | assumption | decide | exact Nat.lt_of_le_of_lt (Nat.shiftRight_le ..) (by first | omega | assumption) | exact Nat.lt_of_le_of_lt Nat.and_le_left (by first | omega | assumption) | exact Nat.lt_of_le_of_lt Nat.and_le_right (by first | omega | decide)) (by first | omega | assumption | decide | exact Nat.lt_of_le_of_lt (Nat.shiftRight_le ..) (by first | omega | assumption) | exact Nat.lt_of_le_of_lt Nat.and_le_left (by first | omega | assumption) | exact Nat.lt_of_le_of_lt Nat.and_le_right (by first | omega | decide))) rfl rfl ?_
      first | refine SL.skip rfl rfl ?_ | refine SL.y (op_eqlT rfl rfl (by omega)) rfl rfl ?_ | refine SL.y (op_eqlF rfl rfl (by omega)) rfl rfl ?_ | refine SL.y (op_eql rfl rfl) rfl rfl ?_
      first | refine SL.y (op_pickT rfl rfl) rfl rfl ?_ | refine SL.y (op_pickF rfl rfl) rfl rfl ?_ | refine SL.y (op_pickB rfl rfl rfl) rfl rfl ?_
      refine SL.y (op_assign rfl) rfl rfl ?_
      refine SL.nil ?_
      -- ret
      refine T.ret1 rfl (ResIs.tmp rfl) ?_
      simp [hasB, testBit_big hlt (show 64 ≤ k by omega)]
    · by_cases h2 : k < 64
      · have hsh : m >>> k < 18446744073709551616 := Nat.lt_of_le_of_lt (Nat.shiftRight_le ..) hlt
        refine Spec.enter Tryd.func21 rfl Tryd.ntmps21 rfl ?_
        intro w0 hw0
        refine T.seq ?_
        refine T.region ?_
        refine SL.x (op_box rfl) rfl rfl ?_
        rintro _ _ _ ⟨B2, rfl, rfl, rfl⟩
        refine SL.y (op_assign rfl) rfl rfl ?_
        refine SL.nil ?_
        refine T.seq ?_
        refine T.region ?_
        refine SL.y (op_move rfl) rfl rfl ?_
        first | refine SL.y (op_geqT rfl rfl (by omega)) rfl rfl ?_ | refine SL.y (op_geqF rfl rfl (by omega)) rfl rfl ?_ | refine SL.y (op_geq rfl rfl) rfl rfl ?_
        refine SL.y (op_move rfl) rfl rfl ?_
        first | refine SL.skip rfl rfl ?_ | refine SL.y (op_move rfl) rfl rfl ?_
        first | refine SL.skip rfl rfl ?_ | refine SL.y (op_leqT rfl rfl (by omega)) rfl rfl ?_ | refine SL.y (op_leqF rfl rfl (by omega)) rfl rfl ?_ | refine SL.y (op_leq rfl rfl) rfl rfl ?_
        first | refine SL.y (op_pickT rfl rfl) rfl rfl ?_ | refine SL.y (op_pickF rfl rfl) rfl rfl ?_ | refine SL.y (op_pickB rfl rfl rfl) rfl rfl ?_
        refine SL.y (op_move rfl) rfl rfl ?_
        first | refine SL.skip rfl rfl ?_ | refine SL.y (op_load ty39 rfl (by repeat (first | exact AtO.here | apply AtO.there)) rfl) rfl rfl ?_ | refine SL.y (op_loadX ty39 rfl (by assumption) rfl) rfl rfl ?_
        first | refine SL.skip rfl rfl ?_ | refine SL.y (op_move rfl) rfl rfl ?_
        first | refine SL.skip rfl rfl ?_ | refine SL.y (op_quo0 (q := 64) rfl rfl rfl (by omega) (by omega)) rfl rfl ?_ | refine SL.y (op_quoN (q := 64) rfl rfl rfl (by omega) (by decide)) rfl rfl ?_ | refine SL.y (op_quo rfl rfl (by omega) (by omega) (by omega)) rfl rfl ?_
        -- op
        refine SL.x (op_callF en53 (vs := [_, _]) rfl (word_spec h _ m (if_pos (by omega)))) rfl rfl ?_
        rintro _ _ X1 ⟨rfl, hX1, rfl⟩
        first | refine SL.skip rfl rfl ?_ | refine SL.y (op_move rfl) rfl rfl ?_
        first | refine SL.skip rfl rfl ?_ | refine SL.y (op_remS (q := 64) rfl rfl rfl (by omega)) rfl rfl ?_ | refine SL.y (op_remN (q := 64) rfl rfl rfl (by decide)) rfl rfl ?_ | refine SL.y (op_rem rfl rfl (by omega) (by omega)) rfl rfl ?_
        first | refine SL.skip rfl rfl ?_ | refine SL.y (op_shrN rfl rfl (by omega)) rfl rfl ?_ | refine SL.y (op_shr rfl rfl) rfl rfl ?_
        first | refine SL.skip rfl rfl ?_ | refine SL.y (op_and (q := 1) rfl rfl (by first | omega | assumption | decide | exact Nat.lt_of_le_of_lt (Nat.shiftRight_le ..) (by first | omega | assumption) | exact Nat.lt_of_le_of_lt Nat.and_le_left (by first | omega | assumption) | exact Nat.lt_of_le_of_lt Nat.and_le_right (by first | omega | decide)) (by first | omega | assumption | decide | exact Nat.lt_of_le_of_lt (Nat.shiftRight_le ..) (by first | omega | assumption) | exact Nat.lt_of_le_of_lt Nat.and_le_left (by first | omega | assumption) | exact Nat.lt_of_le_of_lt Nat.and_le_right (by first | omega | decide))) rfl rfl ?_
        first | refine SL.skip rfl rfl ?_ | refine SL.y (op_eqlT rfl rfl (by omega)) rfl rfl ?_ | refine SL.y (op_eqlF rfl rfl (by omega)) rfl rfl ?_ | refine SL.y (op_eql rfl rfl) rfl rfl ?_
        first | refine SL.y (op_pickT rfl rfl) rfl rfl ?_ | refine SL.y (op_pickF rfl rfl) rfl rfl ?_ | refine SL.y (op_pickB rfl rfl rfl) rfl rfl ?_
        refine SL.y (op_assign rfl) rfl rfl ?_
        refine SL.nil ?_
        -- ret
        refine T.ret1 rfl (ResIs.tmp rfl) ?_
        rw [shr_and_one]
        cases hb : m.testBit k <;> simp [hasB, hb]
      · have hsh : 0 >>> (k % 64) < 18446744073709551616 := by simp
        refine Spec.enter Tryd.func21 rfl Tryd.ntmps21 rfl ?_
        intro w0 hw0
        refine T.seq ?_
        refine T.region ?_
        refine SL.x (op_box rfl) rfl rfl ?_
        rintro _ _ _ ⟨B2, rfl, rfl, rfl⟩
        refine SL.y (op_assign rfl) rfl rfl ?_
        refine SL.nil ?_
        refine T.seq ?_
        refine T.region ?_
        refine SL.y (op_move rfl) rfl rfl ?_
        first | refine SL.y (op_geqT rfl rfl (by omega)) rfl rfl ?_ | refine SL.y (op_geqF rfl rfl (by omega)) rfl rfl ?_ | refine SL.y (op_geq rfl rfl) rfl rfl ?_
        refine SL.y (op_move rfl) rfl rfl ?_
        first | refine SL.skip rfl rfl ?_ | refine SL.y (op_move rfl) rfl rfl ?_
        first | refine SL.skip rfl rfl ?_ | refine SL.y (op_leqT rfl rfl (by omega)) rfl rfl ?_ | refine SL.y (op_leqF rfl rfl (by omega)) rfl rfl ?_ | refine SL.y (op_leq rfl rfl) rfl rfl ?_
        first | refine SL.y (op_pickT rfl rfl) rfl rfl ?_ | refine SL.y (op_pickF rfl rfl) rfl rfl ?_ | refine SL.y (op_pickB rfl rfl rfl) rfl rfl ?_
        refine SL.y (op_move rfl) rfl rfl ?_
        first | refine SL.skip rfl rfl ?_ | refine SL.y (op_load ty39 rfl (by repeat (first | exact AtO.here | apply AtO.there)) rfl) rfl rfl ?_ | refine SL.y (op_loadX ty39 rfl (by assumption) rfl) rfl rfl ?_
        first | refine SL.skip rfl rfl ?_ | refine SL.y (op_move rfl) rfl rfl ?_
        first | refine SL.skip rfl rfl ?_ | refine SL.y (op_quo0 (q := 64) rfl rfl rfl (by omega) (by omega)) rfl rfl ?_ | refine SL.y (op_quoN (q := 64) rfl rfl rfl (by omega) (by decide)) rfl rfl ?_ | refine SL.y (op_quo rfl rfl (by omega) (by omega) (by omega)) rfl rfl ?_
        -- op
        refine SL.x (op_callF en53 (vs := [_, _]) rfl (word_spec h _ 0 (if_neg (by omega)))) rfl rfl ?_
        rintro _ _ X1 ⟨rfl, hX1, rfl⟩
        first | refine SL.skip rfl rfl ?_ | refine SL.y (op_move rfl) rfl rfl ?_
        first | refine SL.skip rfl rfl ?_ | refine SL.y (op_remS (q := 64) rfl rfl rfl (by omega)) rfl rfl ?_ | refine SL.y (op_remN (q := 64) rfl rfl rfl (by decide)) rfl rfl ?_ | refine SL.y (op_rem rfl rfl (by omega) (by omega)) rfl rfl ?_
        first | refine SL.skip rfl rfl ?_ | refine SL.y (op_shrN rfl rfl (by omega)) rfl rfl ?_ | refine SL.y (op_shr rfl rfl) rfl rfl ?_
        first | refine SL.skip rfl rfl ?_ | refine SL.y (op_and (q := 1) rfl rfl (by first | omega | assumption | decide | exact Nat.lt_of_le_of_lt (Nat.shiftRight_le ..) (by first | omega | assumption) | exact Nat.lt_of_le_of_lt Nat.and_le_left (by first | omega | assumption) | exact Nat.lt_of_le_of_lt Nat.and_le_right (by first | omega | decide)) (by first | omega | assumption | decide | exact Nat.lt_of_le_of_lt (Nat.shiftRight_le ..) (by first | omega | assumption) | exact Nat.lt_of_le_of_lt Nat.and_le_left (by first | omega | assumption) | exact Nat.lt_of_le_of_lt Nat.and_le_right (by first | omega | decide))) rfl rfl ?_
        first | refine SL.skip rfl rfl ?_ | refine SL.y (op_eqlT rfl rfl (by omega)) rfl rfl ?_ | refine SL.y (op_eqlF rfl rfl (by omega)) rfl rfl ?_ | refine SL.y (op_eql rfl rfl) rfl rfl ?_
        first | refine SL.y (op_pickT rfl rfl) rfl rfl ?_ | refine SL.y (op_pickF rfl rfl) rfl rfl ?_ | refine SL.y (op_pickB rfl rfl rfl) rfl rfl ?_
        refine SL.y (op_assign rfl) rfl rfl ?_
        refine SL.nil ?_
        -- ret
        refine T.ret1 rfl (ResIs.tmp rfl) ?_
        simp [hasB, testBit_big hlt (show 64 ≤ k by omega)]

theorem SetR.zero {X : PMap} {A : Option Addr} {c : Nat} : SetR X (.agg #[.slice A 0 c]) 0 := .inl ⟨rfl, A, c, rfl⟩
theorem SetR.one {X : PMap} {b c m : Nat} {rest : List Value} (h0 : m ≠ 0) (h : m < 18446744073709551616) (hB : Blk X b (.int .u64 m :: rest)) : SetR X (.agg #[.slice (some ⟨b, 0, none⟩) 1 c]) m := .inr ⟨Nat.pos_of_ne_zero h0, h, b, c, rest, rfl, hB⟩

theorem empty_spec {X : PMap} {v : Value} {m : Nat} (h : SetR X v m) : Spec Tryd.prog 40 [v] X fun u _ => u = .bool (decide (m = 0)) := by
  rcases h with ⟨rfl, A, c, rfl⟩ | ⟨h0, h1, b, c, rest, rfl, hB⟩
  · refine Spec.enter Tryd.func40 rfl Tryd.ntmps40 rfl ?_
    intro w0 hw0
    refine T.seq ?_
    refine T.region ?_
    refine SL.x (op_box rfl) rfl rfl ?_
    rintro _ _ _ ⟨B1, rfl, rfl, rfl⟩
    refine SL.y (op_assign rfl) rfl rfl ?_
    refine SL.nil ?_
    refine T.seq ?_
    refine T.region ?_
    refine SL.y (op_fieldAddr fa39_0 rfl) rfl rfl ?_
    first | refine SL.y (op_load ty37 rfl (by repeat (first | exact AtO.here | apply AtO.there)) rfl) rfl rfl ?_ | refine SL.y (op_loadX ty37 rfl (by assumption) rfl) rfl rfl ?_
    refine SL.y (op_lenS Tryd.underlying37 rfl) rfl rfl ?_
    first | refine SL.y (op_eqlT rfl rfl (by omega)) rfl rfl ?_ | refine SL.y (op_eqlF rfl rfl (by omega)) rfl rfl ?_ | refine SL.y (op_eql rfl rfl) rfl rfl ?_
    refine SL.y (op_assign rfl) rfl rfl ?_
    refine SL.nil ?_
    -- ret
    refine T.ret1 rfl (ResIs.tmp rfl) ?_
    simp
  · refine Spec.enter Tryd.func40 rfl Tryd.ntmps40 rfl ?_
    intro w0 hw0
    refine T.seq ?_
    refine T.region ?_
    refine SL.x (op_box rfl) rfl rfl ?_
    rintro _ _ _ ⟨B1, rfl, rfl, rfl⟩
    refine SL.y (op_assign rfl) rfl rfl ?_
    refine SL.nil ?_
    refine T.seq ?_
    refine T.region ?_
    refine SL.y (op_fieldAddr fa39_0 rfl) rfl rfl ?_
    first | refine SL.y (op_load ty37 rfl (by repeat (first | exact AtO.here | apply AtO.there)) rfl) rfl rfl ?_ | refine SL.y (op_loadX ty37 rfl (by assumption) rfl) rfl rfl ?_
    refine SL.y (op_lenS Tryd.underlying37 rfl) rfl rfl ?_
    first | refine SL.y (op_eqlT rfl rfl (by omega)) rfl rfl ?_ | refine SL.y (op_eqlF rfl rfl (by omega)) rfl rfl ?_ | refine SL.y (op_eql rfl rfl) rfl rfl ?_
    refine SL.y (op_assign rfl) rfl rfl ?_
    refine SL.nil ?_
    -- ret
    refine T.ret1 rfl (ResIs.tmp rfl) ?_
    simp; omega

theorem equal_spec {X : PMap} {v v' : Value} {m m' : Nat} (h : SetR X v m) (h' : SetR X v' m') : Spec Tryd.prog 28 [v, v'] X fun u _ => u = .bool (decide (m = m')) := by
  rcases h with ⟨rfl, A, c, rfl⟩ | ⟨h0, h1, b, c, rest, rfl, hB⟩ <;> rcases h' with ⟨rfl, A', c', rfl⟩ | ⟨h0', h1', b', c', rest', rfl, hB'⟩
  · refine Spec.enter Tryd.func28 rfl Tryd.ntmps28 rfl ?_
    intro w0 hw0
    refine T.seq ?_
    refine T.region ?_
    refine SL.x (op_box rfl) rfl rfl ?_
    rintro _ _ _ ⟨B2, rfl, rfl, rfl⟩
    refine SL.x (op_box rfl) rfl rfl ?_
    rintro _ _ _ ⟨B3, rfl, rfl, rfl⟩
    refine SL.y (op_assign rfl) rfl rfl ?_
    refine SL.nil ?_
    refine T.seq ?_
    refine T.seq ?_
    refine T.region ?_
    refine SL.y (op_fieldAddr fa39_0 rfl) rfl rfl ?_
    first | refine SL.y (op_load ty37 rfl (by repeat (first | exact AtO.here | apply AtO.there)) rfl) rfl rfl ?_ | refine SL.y (op_loadX ty37 rfl (by assumption) rfl) rfl rfl ?_
    refine SL.y (op_lenS Tryd.underlying37 rfl) rfl rfl ?_
    refine SL.y (op_fieldAddr fa39_0 rfl) rfl rfl ?_
    first | refine SL.y (op_load ty37 rfl (by repeat (first | exact AtO.here | apply AtO.there)) rfl) rfl rfl ?_ | refine SL.y (op_loadX ty37 rfl (by assumption) rfl) rfl rfl ?_
    refine SL.y (op_lenS Tryd.underlying37 rfl) rfl rfl ?_
    first | refine SL.y (op_neqT rfl rfl (by omega)) rfl rfl ?_ | refine SL.y (op_neqF rfl rfl (by omega)) rfl rfl ?_ | refine SL.y (op_neq rfl rfl) rfl rfl ?_
    refine SL.nil ?_
    refine T.condF rfl ?_
    refine T.skip ?_
    refine T.seq ?_
    refine T.seq ?_
    refine T.region ?_
    refine SL.y (op_fieldAddr fa39_0 rfl) rfl rfl ?_
    first | refine SL.y (op_load ty37 rfl (by repeat (first | exact AtO.here | apply AtO.there)) rfl) rfl rfl ?_ | refine SL.y (op_loadX ty37 rfl (by assumption) rfl) rfl rfl ?_
    refine SL.y (op_lenS Tryd.underlying37 rfl) rfl rfl ?_
    refine SL.y (op_move (v := .int .i64 ((0 : Nat) : Int)) rfl) rfl rfl ?_
    refine SL.nil ?_
    refine T.block ?_
    -- loop live [3, 4, 15, 16, 17]
    refine T.unrollStart 1 ?_
    refine T.unroll ?_
    refine T.seq ?_
    refine T.region ?_
    first | refine SL.y (op_lssT rfl rfl (by omega)) rfl rfl ?_ | refine SL.y (op_lssF rfl rfl (by omega)) rfl rfl ?_ | refine SL.y (op_lss rfl rfl) rfl rfl ?_
    refine SL.nil ?_
    refine T.seq ?_
    refine T.condF rfl ?_
    refine T.exit (T.exitCode (T.exitMore (T.exitBlk ?_)))
    refine T.seq ?_
    refine T.region ?_
    refine SL.y (op_assign rfl) rfl rfl ?_
    refine SL.nil ?_
    -- ret
    refine T.ret1 rfl (ResIs.tmp rfl) ?_
    simp
  · refine Spec.enter Tryd.func28 rfl Tryd.ntmps28 rfl ?_
    intro w0 hw0
    refine T.seq ?_
    refine T.region ?_
    refine SL.x (op_box rfl) rfl rfl ?_
    rintro _ _ _ ⟨B2, rfl, rfl, rfl⟩
    refine SL.x (op_box rfl) rfl rfl ?_
    rintro _ _ _ ⟨B3, rfl, rfl, rfl⟩
    refine SL.y (op_assign rfl) rfl rfl ?_
    refine SL.nil ?_
    refine T.seq ?_
    refine T.seq ?_
    refine T.region ?_
    refine SL.y (op_fieldAddr fa39_0 rfl) rfl rfl ?_
    first | refine SL.y (op_load ty37 rfl (by repeat (first | exact AtO.here | apply AtO.there)) rfl) rfl rfl ?_ | refine SL.y (op_loadX ty37 rfl (by assumption) rfl) rfl rfl ?_
    refine SL.y (op_lenS Tryd.underlying37 rfl) rfl rfl ?_
    refine SL.y (op_fieldAddr fa39_0 rfl) rfl rfl ?_
    first | refine SL.y (op_load ty37 rfl (by repeat (first | exact AtO.here | apply AtO.there)) rfl) rfl rfl ?_ | refine SL.y (op_loadX ty37 rfl (by assumption) rfl) rfl rfl ?_
    refine SL.y (op_lenS Tryd.underlying37 rfl) rfl rfl ?_
    first | refine SL.y (op_neqT rfl rfl (by omega)) rfl rfl ?_ | refine SL.y (op_neqF rfl rfl (by omega)) rfl rfl ?_ | refine SL.y (op_neq rfl rfl) rfl rfl ?_
    refine SL.nil ?_
    refine T.condT rfl ?_
    refine T.seq ?_
    refine T.region ?_
    refine SL.y (op_assign rfl) rfl rfl ?_
    refine SL.nil ?_
    -- ret
    refine T.ret1 rfl (ResIs.tmp rfl) ?_
    simp; omega
  · refine Spec.enter Tryd.func28 rfl Tryd.ntmps28 rfl ?_
    intro w0 hw0
    refine T.seq ?_
    refine T.region ?_
    refine SL.x (op_box rfl) rfl rfl ?_
    rintro _ _ _ ⟨B2, rfl, rfl, rfl⟩
    refine SL.x (op_box rfl) rfl rfl ?_
    rintro _ _ _ ⟨B3, rfl, rfl, rfl⟩
    refine SL.y (op_assign rfl) rfl rfl ?_
    refine SL.nil ?_
    refine T.seq ?_
    refine T.seq ?_
    refine T.region ?_
    refine SL.y (op_fieldAddr fa39_0 rfl) rfl rfl ?_
    first | refine SL.y (op_load ty37 rfl (by repeat (first | exact AtO.here | apply AtO.there)) rfl) rfl rfl ?_ | refine SL.y (op_loadX ty37 rfl (by assumption) rfl) rfl rfl ?_
    refine SL.y (op_lenS Tryd.underlying37 rfl) rfl rfl ?_
    refine SL.y (op_fieldAddr fa39_0 rfl) rfl rfl ?_
    first | refine SL.y (op_load ty37 rfl (by repeat (first | exact AtO.here | apply AtO.there)) rfl) rfl rfl ?_ | refine SL.y (op_loadX ty37 rfl (by assumption) rfl) rfl rfl ?_
    refine SL.y (op_lenS Tryd.underlying37 rfl) rfl rfl ?_
    first | refine SL.y (op_neqT rfl rfl (by omega)) rfl rfl ?_ | refine SL.y (op_neqF rfl rfl (by omega)) rfl rfl ?_ | refine SL.y (op_neq rfl rfl) rfl rfl ?_
    refine SL.nil ?_
    refine T.condT rfl ?_
    refine T.seq ?_
    refine T.region ?_
    refine SL.y (op_assign rfl) rfl rfl ?_
    refine SL.nil ?_
    -- ret
    refine T.ret1 rfl (ResIs.tmp rfl) ?_
    simp; omega
  · by_cases hm : m = m'
    · refine Spec.enter Tryd.func28 rfl Tryd.ntmps28 rfl ?_
      intro w0 hw0
      refine T.seq ?_
      refine T.region ?_
      refine SL.x (op_box rfl) rfl rfl ?_
      rintro _ _ _ ⟨B2, rfl, rfl, rfl⟩
      refine SL.x (op_box rfl) rfl rfl ?_
      rintro _ _ _ ⟨B3, rfl, rfl, rfl⟩
      refine SL.y (op_assign rfl) rfl rfl ?_
      refine SL.nil ?_
      refine T.seq ?_
      refine T.seq ?_
      refine T.region ?_
      refine SL.y (op_fieldAddr fa39_0 rfl) rfl rfl ?_
      first | refine SL.y (op_load ty37 rfl (by repeat (first | exact AtO.here | apply AtO.there)) rfl) rfl rfl ?_ | refine SL.y (op_loadX ty37 rfl (by assumption) rfl) rfl rfl ?_
      refine SL.y (op_lenS Tryd.underlying37 rfl) rfl rfl ?_
      refine SL.y (op_fieldAddr fa39_0 rfl) rfl rfl ?_
      first | refine SL.y (op_load ty37 rfl (by repeat (first | exact AtO.here | apply AtO.there)) rfl) rfl rfl ?_ | refine SL.y (op_loadX ty37 rfl (by assumption) rfl) rfl rfl ?_
      refine SL.y (op_lenS Tryd.underlying37 rfl) rfl rfl ?_
      first | refine SL.y (op_neqT rfl rfl (by omega)) rfl rfl ?_ | refine SL.y (op_neqF rfl rfl (by omega)) rfl rfl ?_ | refine SL.y (op_neq rfl rfl) rfl rfl ?_
      refine SL.nil ?_
      refine T.condF rfl ?_
      refine T.skip ?_
      refine T.seq ?_
      refine T.seq ?_
      refine T.region ?_
      refine SL.y (op_fieldAddr fa39_0 rfl) rfl rfl ?_
      first | refine SL.y (op_load ty37 rfl (by repeat (first | exact AtO.here | apply AtO.there)) rfl) rfl rfl ?_ | refine SL.y (op_loadX ty37 rfl (by assumption) rfl) rfl rfl ?_
      refine SL.y (op_lenS Tryd.underlying37 rfl) rfl rfl ?_
      refine SL.y (op_move (v := .int .i64 ((0 : Nat) : Int)) rfl) rfl rfl ?_
      refine SL.nil ?_
      refine T.block ?_
      -- loop live [3, 4, 15, 16, 17]
      refine T.unrollStart 2 ?_
      refine T.unroll ?_
      refine T.seq ?_
      refine T.region ?_
      first | refine SL.y (op_lssT rfl rfl (by omega)) rfl rfl ?_ | refine SL.y (op_lssF rfl rfl (by omega)) rfl rfl ?_ | refine SL.y (op_lss rfl rfl) rfl rfl ?_
      refine SL.nil ?_
      refine T.seq ?_
      refine T.condT rfl ?_
      refine T.skip ?_
      refine T.seq ?_
      refine T.block ?_
      refine T.seq ?_
      refine T.region ?_
      refine SL.y (op_move rfl) rfl rfl ?_
      first | refine SL.y (op_indexN Tryd.underlying37 ty95 rfl rfl (by omega)) rfl rfl ?_ | refine SL.y (op_index Tryd.underlying37 ty95 rfl rfl (by omega) (by omega)) rfl rfl ?_
      first | refine SL.y (op_load ty95 rfl (by repeat (first | exact AtO.here | apply AtO.there)) rfl) rfl rfl ?_ | refine SL.y (op_loadX ty95 rfl (by assumption) rfl) rfl rfl ?_
      refine SL.y (op_assign rfl) rfl rfl ?_
      refine SL.y (op_assign rfl) rfl rfl ?_
      refine SL.nil ?_
      refine T.seq ?_
      refine T.region ?_
      refine SL.y (op_move rfl) rfl rfl ?_
      refine SL.y (op_fieldAddr fa39_0 rfl) rfl rfl ?_
      first | refine SL.y (op_load ty37 rfl (by repeat (first | exact AtO.here | apply AtO.there)) rfl) rfl rfl ?_ | refine SL.y (op_loadX ty37 rfl (by assumption) rfl) rfl rfl ?_
      refine SL.y (op_move rfl) rfl rfl ?_
      first | refine SL.y (op_indexN Tryd.underlying37 ty95 rfl rfl (by omega)) rfl rfl ?_ | refine SL.y (op_index Tryd.underlying37 ty95 rfl rfl (by omega) (by omega)) rfl rfl ?_
      first | refine SL.y (op_load ty95 rfl (by repeat (first | exact AtO.here | apply AtO.there)) rfl) rfl rfl ?_ | refine SL.y (op_loadX ty95 rfl (by assumption) rfl) rfl rfl ?_
      first | refine SL.y (op_neqT rfl rfl (by omega)) rfl rfl ?_ | refine SL.y (op_neqF rfl rfl (by omega)) rfl rfl ?_ | refine SL.y (op_neq rfl rfl) rfl rfl ?_
      refine SL.nil ?_
      refine T.condF rfl ?_
      refine T.skip ?_
      refine T.blk ?_
      refine T.region ?_
      first | refine SL.y (op_addN (q := 1) rfl rfl (by omega)) rfl rfl ?_ | refine SL.y (op_add rfl rfl (by omega) (by omega)) rfl rfl ?_ | refine SL.y (op_addW rfl rfl) rfl rfl ?_
      refine SL.y (op_move rfl) rfl rfl ?_
      refine SL.nil ?_
      refine T.unroll ?_
      refine T.seq ?_
      refine T.region ?_
      first | refine SL.y (op_lssT rfl rfl (by omega)) rfl rfl ?_ | refine SL.y (op_lssF rfl rfl (by omega)) rfl rfl ?_ | refine SL.y (op_lss rfl rfl) rfl rfl ?_
      refine SL.nil ?_
      refine T.seq ?_
      refine T.condF rfl ?_
      refine T.exit (T.exitCode (T.exitMore (T.exitBlk ?_)))
      refine T.seq ?_
      refine T.region ?_
      refine SL.y (op_assign rfl) rfl rfl ?_
      refine SL.nil ?_
      -- ret
      refine T.ret1 rfl (ResIs.tmp rfl) ?_
      simp [hm]
    · refine Spec.enter Tryd.func28 rfl Tryd.ntmps28 rfl ?_
      intro w0 hw0
      refine T.seq ?_
      refine T.region ?_
      refine SL.x (op_box rfl) rfl rfl ?_
      rintro _ _ _ ⟨B2, rfl, rfl, rfl⟩
      refine SL.x (op_box rfl) rfl rfl ?_
      rintro _ _ _ ⟨B3, rfl, rfl, rfl⟩
      refine SL.y (op_assign rfl) rfl rfl ?_
      refine SL.nil ?_
      refine T.seq ?_
      refine T.seq ?_
      refine T.region ?_
      refine SL.y (op_fieldAddr fa39_0 rfl) rfl rfl ?_
      first | refine SL.y (op_load ty37 rfl (by repeat (first | exact AtO.here | apply AtO.there)) rfl) rfl rfl ?_ | refine SL.y (op_loadX ty37 rfl (by assumption) rfl) rfl rfl ?_
      refine SL.y (op_lenS Tryd.underlying37 rfl) rfl rfl ?_
      refine SL.y (op_fieldAddr fa39_0 rfl) rfl rfl ?_
      first | refine SL.y (op_load ty37 rfl (by repeat (first | exact AtO.here | apply AtO.there)) rfl) rfl rfl ?_ | refine SL.y (op_loadX ty37 rfl (by assumption) rfl) rfl rfl ?_
      refine SL.y (op_lenS Tryd.underlying37 rfl) rfl rfl ?_
      first | refine SL.y (op_neqT rfl rfl (by omega)) rfl rfl ?_ | refine SL.y (op_neqF rfl rfl (by omega)) rfl rfl ?_ | refine SL.y (op_neq rfl rfl) rfl rfl ?_
      refine SL.nil ?_
      refine T.condF rfl ?_
      refine T.skip ?_
      refine T.seq ?_
      refine T.seq ?_
      refine T.region ?_
      refine SL.y (op_fieldAddr fa39_0 rfl) rfl rfl ?_
      first | refine SL.y (op_load ty37 rfl (by repeat (first | exact AtO.here | apply AtO.there)) rfl) rfl rfl ?_ | refine SL.y (op_loadX ty37 rfl (by assumption) rfl) rfl rfl ?_
      refine SL.y (op_lenS Tryd.underlying37 rfl) rfl rfl ?_
      refine SL.y (op_move (v := .int .i64 ((0 : Nat) : Int)) rfl) rfl rfl ?_
      refine SL.nil ?_
      refine T.block ?_
      -- loop live [3, 4, 15, 16, 17]
      refine T.unrollStart 2 ?_
      refine T.unroll ?_
      refine T.seq ?_
      refine T.region ?_
      first | refine SL.y (op_lssT rfl rfl (by omega)) rfl rfl ?_ | refine SL.y (op_lssF rfl rfl (by omega)) rfl rfl ?_ | refine SL.y (op_lss rfl rfl) rfl rfl ?_
      refine SL.nil ?_
      refine T.seq ?_
      refine T.condT rfl ?_
      refine T.skip ?_
      refine T.seq ?_
      refine T.block ?_
      refine T.seq ?_
      refine T.region ?_
      refine SL.y (op_move rfl) rfl rfl ?_
      first | refine SL.y (op_indexN Tryd.underlying37 ty95 rfl rfl (by omega)) rfl rfl ?_ | refine SL.y (op_index Tryd.underlying37 ty95 rfl rfl (by omega) (by omega)) rfl rfl ?_
      first | refine SL.y (op_load ty95 rfl (by repeat (first | exact AtO.here | apply AtO.there)) rfl) rfl rfl ?_ | refine SL.y (op_loadX ty95 rfl (by assumption) rfl) rfl rfl ?_
      refine SL.y (op_assign rfl) rfl rfl ?_
      refine SL.y (op_assign rfl) rfl rfl ?_
      refine SL.nil ?_
      refine T.seq ?_
      refine T.region ?_
      refine SL.y (op_move rfl) rfl rfl ?_
      refine SL.y (op_fieldAddr fa39_0 rfl) rfl rfl ?_
      first | refine SL.y (op_load ty37 rfl (by repeat (first | exact AtO.here | apply AtO.there)) rfl) rfl rfl ?_ | refine SL.y (op_loadX ty37 rfl (by assumption) rfl) rfl rfl ?_
      refine SL.y (op_move rfl) rfl rfl ?_
      first | refine SL.y (op_indexN Tryd.underlying37 ty95 rfl rfl (by omega)) rfl rfl ?_ | refine SL.y (op_index Tryd.underlying37 ty95 rfl rfl (by omega) (by omega)) rfl rfl ?_
      first | refine SL.y (op_load ty95 rfl (by repeat (first | exact AtO.here | apply AtO.there)) rfl) rfl rfl ?_ | refine SL.y (op_loadX ty95 rfl (by assumption) rfl) rfl rfl ?_
      first | refine SL.y (op_neqT rfl rfl (by omega)) rfl rfl ?_ | refine SL.y (op_neqF rfl rfl (by omega)) rfl rfl ?_ | refine SL.y (op_neq rfl rfl) rfl rfl ?_
      refine SL.nil ?_
      refine T.condT rfl ?_
      refine T.seq ?_
      refine T.region ?_
      refine SL.y (op_assign rfl) rfl rfl ?_
      refine SL.nil ?_
      -- ret
      refine T.ret1 rfl (ResIs.tmp rfl) ?_
      simp [hm]

theorem within_spec {X : PMap} {v v' : Value} {m m' : Nat} (h : SetR X v m) (h' : SetR X v' m') : Spec Tryd.prog 19 [v, v'] X fun u _ => u = .bool (decide (m &&& (18446744073709551615 - m') = 0)) := by
  have hlt' := h'.lt
  rcases h with ⟨rfl, A, c, rfl⟩ | ⟨h0, h1, b, c, rest, rfl, hB⟩
  · obtain ⟨A', l', c', rfl⟩ := h'.form
    refine Spec.enter Tryd.func19 rfl Tryd.ntmps19 rfl ?_
    intro w0 hw0
    refine T.seq ?_
    refine T.region ?_
    refine SL.x (op_box rfl) rfl rfl ?_
    rintro _ _ _ ⟨B2, rfl, rfl, rfl⟩
    refine SL.x (op_box rfl) rfl rfl ?_
    rintro _ _ _ ⟨B3, rfl, rfl, rfl⟩
    refine SL.y (op_assign rfl) rfl rfl ?_
    refine SL.nil ?_
    refine T.seq ?_
    refine T.seq ?_
    refine T.region ?_
    refine SL.y (op_fieldAddr fa39_0 rfl) rfl rfl ?_
    first | refine SL.y (op_load ty37 rfl (by repeat (first | exact AtO.here | apply AtO.there)) rfl) rfl rfl ?_ | refine SL.y (op_loadX ty37 rfl (by assumption) rfl) rfl rfl ?_
    refine SL.y (op_lenS Tryd.underlying37 rfl) rfl rfl ?_
    refine SL.y (op_move (v := .int .i64 ((0 : Nat) : Int)) rfl) rfl rfl ?_
    refine SL.nil ?_
    refine T.block ?_
    -- loop live [3, 4, 8, 9, 10]
    refine T.unrollStart 1 ?_
    refine T.unroll ?_
    refine T.seq ?_
    refine T.region ?_
    first | refine SL.y (op_lssT rfl rfl (by omega)) rfl rfl ?_ | refine SL.y (op_lssF rfl rfl (by omega)) rfl rfl ?_ | refine SL.y (op_lss rfl rfl) rfl rfl ?_
    refine SL.nil ?_
    refine T.seq ?_
    refine T.condF rfl ?_
    refine T.exit (T.exitCode (T.exitMore (T.exitBlk ?_)))
    refine T.seq ?_
    refine T.region ?_
    refine SL.y (op_assign rfl) rfl rfl ?_
    refine SL.nil ?_
    -- ret
    refine T.ret1 rfl (ResIs.tmp rfl) ?_
    simp
  · obtain ⟨A', l', c', rfl⟩ := h'.form
    by_cases hm : m &&& (18446744073709551615 - m') = 0
    · refine Spec.enter Tryd.func19 rfl Tryd.ntmps19 rfl ?_
      intro w0 hw0
      refine T.seq ?_
      refine T.region ?_
      refine SL.x (op_box rfl) rfl rfl ?_
      rintro _ _ _ ⟨B2, rfl, rfl, rfl⟩
      refine SL.x (op_box rfl) rfl rfl ?_
      rintro _ _ _ ⟨B3, rfl, rfl, rfl⟩
      refine SL.y (op_assign rfl) rfl rfl ?_
      refine SL.nil ?_
      refine T.seq ?_
      refine T.seq ?_
      refine T.region ?_
      refine SL.y (op_fieldAddr fa39_0 rfl) rfl rfl ?_
      first | refine SL.y (op_load ty37 rfl (by repeat (first | exact AtO.here | apply AtO.there)) rfl) rfl rfl ?_ | refine SL.y (op_loadX ty37 rfl (by assumption) rfl) rfl rfl ?_
      refine SL.y (op_lenS Tryd.underlying37 rfl) rfl rfl ?_
      refine SL.y (op_move (v := .int .i64 ((0 : Nat) : Int)) rfl) rfl rfl ?_
      refine SL.nil ?_
      refine T.block ?_
      -- loop live [3, 4, 8, 9, 10]
      refine T.unrollStart 2 ?_
      refine T.unroll ?_
      refine T.seq ?_
      refine T.region ?_
      first | refine SL.y (op_lssT rfl rfl (by omega)) rfl rfl ?_ | refine SL.y (op_lssF rfl rfl (by omega)) rfl rfl ?_ | refine SL.y (op_lss rfl rfl) rfl rfl ?_
      refine SL.nil ?_
      refine T.seq ?_
      refine T.condT rfl ?_
      refine T.skip ?_
      refine T.seq ?_
      refine T.block ?_
      refine T.seq ?_
      refine T.region ?_
      refine SL.y (op_move rfl) rfl rfl ?_
      first | refine SL.y (op_indexN Tryd.underlying37 ty95 rfl rfl (by omega)) rfl rfl ?_ | refine SL.y (op_index Tryd.underlying37 ty95 rfl rfl (by omega) (by omega)) rfl rfl ?_
      first | refine SL.y (op_load ty95 rfl (by repeat (first | exact AtO.here | apply AtO.there)) rfl) rfl rfl ?_ | refine SL.y (op_loadX ty95 rfl (by assumption) rfl) rfl rfl ?_
      refine SL.y (op_assign rfl) rfl rfl ?_
      refine SL.y (op_assign rfl) rfl rfl ?_
      refine SL.nil ?_
      refine T.seq ?_
      refine T.region ?_
      refine SL.y (op_move rfl) rfl rfl ?_
      first | refine SL.y (op_load ty39 rfl (by repeat (first | exact AtO.here | apply AtO.there)) rfl) rfl rfl ?_ | refine SL.y (op_loadX ty39 rfl (by assumption) rfl) rfl rfl ?_
      refine SL.y (op_move rfl) rfl rfl ?_
      -- op
      refine SL.x (op_callF en53 (vs := [_, _]) rfl (word_spec (k := 0) h' m' (if_pos rfl))) rfl rfl ?_
      rintro _ _ X1 ⟨rfl, hX1, rfl⟩
      refine SL.y (op_andNot rfl rfl (by first | omega | assumption | decide | exact Nat.lt_of_le_of_lt (Nat.shiftRight_le ..) (by first | omega | assumption) | exact Nat.lt_of_le_of_lt Nat.and_le_left (by first | omega | assumption) | exact Nat.lt_of_le_of_lt Nat.and_le_right (by first | omega | decide)) (by first | omega | assumption | decide | exact Nat.lt_of_le_of_lt (Nat.shiftRight_le ..) (by first | omega | assumption) | exact Nat.lt_of_le_of_lt Nat.and_le_left (by first | omega | assumption) | exact Nat.lt_of_le_of_lt Nat.and_le_right (by first | omega | decide))) rfl rfl ?_
      first | refine SL.y (op_neqT rfl rfl (by omega)) rfl rfl ?_ | refine SL.y (op_neqF rfl rfl (by omega)) rfl rfl ?_ | refine SL.y (op_neq rfl rfl) rfl rfl ?_
      refine SL.nil ?_
      refine T.condF rfl ?_
      refine T.skip ?_
      refine T.blk ?_
      refine T.region ?_
      first | refine SL.y (op_addN (q := 1) rfl rfl (by omega)) rfl rfl ?_ | refine SL.y (op_add rfl rfl (by omega) (by omega)) rfl rfl ?_ | refine SL.y (op_addW rfl rfl) rfl rfl ?_
      refine SL.y (op_move rfl) rfl rfl ?_
      refine SL.nil ?_
      refine T.unroll ?_
      refine T.seq ?_
      refine T.region ?_
      first | refine SL.y (op_lssT rfl rfl (by omega)) rfl rfl ?_ | refine SL.y (op_lssF rfl rfl (by omega)) rfl rfl ?_ | refine SL.y (op_lss rfl rfl) rfl rfl ?_
      refine SL.nil ?_
      refine T.seq ?_
      refine T.condF rfl ?_
      refine T.exit (T.exitCode (T.exitMore (T.exitBlk ?_)))
      refine T.seq ?_
      refine T.region ?_
      refine SL.y (op_assign rfl) rfl rfl ?_
      refine SL.nil ?_
      -- ret
      refine T.ret1 rfl (ResIs.tmp rfl) ?_
      simp [hm]
    · refine Spec.enter Tryd.func19 rfl Tryd.ntmps19 rfl ?_
      intro w0 hw0
      refine T.seq ?_
      refine T.region ?_
      refine SL.x (op_box rfl) rfl rfl ?_
      rintro _ _ _ ⟨B2, rfl, rfl, rfl⟩
      refine SL.x (op_box rfl) rfl rfl ?_
      rintro _ _ _ ⟨B3, rfl, rfl, rfl⟩
      refine SL.y (op_assign rfl) rfl rfl ?_
      refine SL.nil ?_
      refine T.seq ?_
      refine T.seq ?_
      refine T.region ?_
      refine SL.y (op_fieldAddr fa39_0 rfl) rfl rfl ?_
      first | refine SL.y (op_load ty37 rfl (by repeat (first | exact AtO.here | apply AtO.there)) rfl) rfl rfl ?_ | refine SL.y (op_loadX ty37 rfl (by assumption) rfl) rfl rfl ?_
      refine SL.y (op_lenS Tryd.underlying37 rfl) rfl rfl ?_
      refine SL.y (op_move (v := .int .i64 ((0 : Nat) : Int)) rfl) rfl rfl ?_
      refine SL.nil ?_
      refine T.block ?_
      -- loop live [3, 4, 8, 9, 10]
      refine T.unrollStart 2 ?_
      refine T.unroll ?_
      refine T.seq ?_
      refine T.region ?_
      first | refine SL.y (op_lssT rfl rfl (by omega)) rfl rfl ?_ | refine SL.y (op_lssF rfl rfl (by omega)) rfl rfl ?_ | refine SL.y (op_lss rfl rfl) rfl rfl ?_
      refine SL.nil ?_
      refine T.seq ?_
      refine T.condT rfl ?_
      refine T.skip ?_
      refine T.seq ?_
      refine T.block ?_
      refine T.seq ?_
      refine T.region ?_
      refine SL.y (op_move rfl) rfl rfl ?_
      first | refine SL.y (op_indexN Tryd.underlying37 ty95 rfl rfl (by omega)) rfl rfl ?_ | refine SL.y (op_index Tryd.underlying37 ty95 rfl rfl (by omega) (by omega)) rfl rfl ?_
      first | refine SL.y (op_load ty95 rfl (by repeat (first | exact AtO.here | apply AtO.there)) rfl) rfl rfl ?_ | refine SL.y (op_loadX ty95 rfl (by assumption) rfl) rfl rfl ?_
      refine SL.y (op_assign rfl) rfl rfl ?_
      refine SL.y (op_assign rfl) rfl rfl ?_
      refine SL.nil ?_
      refine T.seq ?_
      refine T.region ?_
      refine SL.y (op_move rfl) rfl rfl ?_
      first | refine SL.y (op_load ty39 rfl (by repeat (first | exact AtO.here | apply AtO.there)) rfl) rfl rfl ?_ | refine SL.y (op_loadX ty39 rfl (by assumption) rfl) rfl rfl ?_
      refine SL.y (op_move rfl) rfl rfl ?_
      -- op
      refine SL.x (op_callF en53 (vs := [_, _]) rfl (word_spec (k := 0) h' m' (if_pos rfl))) rfl rfl ?_
      rintro _ _ X1 ⟨rfl, hX1, rfl⟩
      refine SL.y (op_andNot rfl rfl (by first | omega | assumption | decide | exact Nat.lt_of_le_of_lt (Nat.shiftRight_le ..) (by first | omega | assumption) | exact Nat.lt_of_le_of_lt Nat.and_le_left (by first | omega | assumption) | exact Nat.lt_of_le_of_lt Nat.and_le_right (by first | omega | decide)) (by first | omega | assumption | decide | exact Nat.lt_of_le_of_lt (Nat.shiftRight_le ..) (by first | omega | assumption) | exact Nat.lt_of_le_of_lt Nat.and_le_left (by first | omega | assumption) | exact Nat.lt_of_le_of_lt Nat.and_le_right (by first | omega | decide))) rfl rfl ?_
      first | refine SL.y (op_neqT rfl rfl (by omega)) rfl rfl ?_ | refine SL.y (op_neqF rfl rfl (by omega)) rfl rfl ?_ | refine SL.y (op_neq rfl rfl) rfl rfl ?_
      refine SL.nil ?_
      refine T.condT rfl ?_
      refine T.seq ?_
      refine T.region ?_
      refine SL.y (op_assign rfl) rfl rfl ?_
      refine SL.nil ?_
      -- ret
      refine T.ret1 rfl (ResIs.tmp rfl) ?_
      simp [hm]

end Go.Proofs.YtkmnlogacfkjmaaDoor
