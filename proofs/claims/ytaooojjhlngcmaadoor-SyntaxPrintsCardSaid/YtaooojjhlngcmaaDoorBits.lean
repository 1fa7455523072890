/- SETS OF SMALL NUMBERS (package bits), at sets below 64: what each function returns. -/
import Derived.Test.YtaooojjhlngcmaaDoorFacts
namespace Go.Proofs.YtaooojjhlngcmaaDoor

/-- v is the set with the mask m: no word, or one word that is not zero. -/
def SetR (X : PMap) (v : Value) (m : Nat) : Prop :=
  (m = 0 ∧ ∃ A c, v = .agg #[.slice A 0 c]) ∨
  (0 < m ∧ m < 18446744073709551616 ∧ ∃ b c rest, v = .agg #[.slice (some ⟨b, 0, none⟩) 1 c] ∧ Blk X b (.int .u64 m :: rest))
theorem SetR.mono {X X' : PMap} {v : Value} {m : Nat} (h : SetR X v m) (hX : X.le X') : SetR X' v m := by
  rcases h with h | ⟨h0, h1, b, c, r, hv, hb⟩
  · exact .inl h
  · exact .inr ⟨h0, h1, b, c, r, hv, hb.mono hX⟩

theorem SetR.form {X : PMap} {v : Value} {m : Nat} (h : SetR X v m) : ∃ A l c, v = .agg #[.slice A l c] := by
  rcases h with ⟨_, A, c, rfl⟩ | ⟨_, _, b, c, _, rfl, _⟩
  · exact ⟨A, 0, c, rfl⟩
  · exact ⟨_, 1, c, rfl⟩
theorem SetR.lt {X : PMap} {v : Value} {m : Nat} (h : SetR X v m) : m < 18446744073709551616 := by
  rcases h with ⟨rfl, _⟩ | ⟨_, h, _⟩ <;> omega

/-- Is i a member of the set with the mask m? -/
def hasB (m : Nat) (i : Int) : Bool := decide (0 ≤ i) && m.testBit i.toNat
theorem testBit_big {m k : Nat} (h : m < 18446744073709551616) (hk : 64 ≤ k) : m.testBit k = false := by
  exact Nat.testBit_lt_two_pow (Nat.lt_of_lt_of_le (show m < 2 ^ 64 from h) (Nat.pow_le_pow_right (by omega) hk))
theorem shr_and_one (m k : Nat) : (m >>> k &&& 1) = if m.testBit k then 1 else 0 := by
  rw [Nat.and_one_is_mod, Nat.testBit_eq_decide_div_mod_eq, Nat.shiftRight_eq_div_pow]
  have := Nat.mod_two_eq_zero_or_one (m / 2 ^ k)
  rcases this with h | h <;> simp [h]

theorem SetR.zero {X : PMap} {A : Option Addr} {c : Nat} : SetR X (.agg #[.slice A 0 c]) 0 := .inl ⟨rfl, A, c, rfl⟩
theorem SetR.one {X : PMap} {b c m : Nat} {rest : List Value} (h0 : m ≠ 0) (h : m < 18446744073709551616) (hB : Blk X b (.int .u64 m :: rest)) : SetR X (.agg #[.slice (some ⟨b, 0, none⟩) 1 c]) m := .inr ⟨Nat.pos_of_ne_zero h0, h, b, c, rest, rfl, hB⟩

end Go.Proofs.YtaooojjhlngcmaaDoor
