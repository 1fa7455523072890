/- SETS OF SMALL NUMBERS: one member more, one less; the first numbers. -/
import Derived.Test.YtaooojjhlngcmaaDoorBits
namespace Go.Proofs.YtaooojjhlngcmaaDoor

theorem hasB_nat (m i : Nat) : hasB m (i : Int) = m.testBit i := by simp [hasB]
theorem or_bit_of_has {m i : Nat} (h : m.testBit i = true) : m ||| 2 ^ i = m := by
  apply Nat.eq_of_testBit_eq
  intro j
  rw [Nat.testBit_or, Nat.testBit_two_pow]
  by_cases e : i = j
  · subst e; simp [h]
  · simp [e]
theorem or_bit_lt {m i : Nat} (h : m < 18446744073709551616) (hi : i < 64) : m ||| 2 ^ i < 18446744073709551616 :=
  Nat.or_lt_two_pow (n := 64) h (Nat.pow_lt_pow_right (by omega) hi)
theorem or_bit_ne (m i : Nat) : m ||| 2 ^ i ≠ 0 := by
  intro h
  have := (Nat.or_eq_zero_iff.1 h).2
  have h2 : 0 < 2 ^ i := Nat.pow_pos (by omega)
  omega

end Go.Proofs.YtaooojjhlngcmaaDoor
