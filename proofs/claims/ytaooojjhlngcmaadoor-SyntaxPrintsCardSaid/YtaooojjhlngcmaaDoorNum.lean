/- NUMBERS AS SETS: least bits, members. Plain; no program is named here. -/
namespace Go.Proofs.YtaooojjhlngcmaaDoor

theorem odd_part : ∀ (m : Nat), 0 < m → ∃ t q, m = 2 ^ t * (2 * q + 1) := by
  intro m
  induction m using Nat.strongRecOn with
  | _ m ih =>
    intro h
    rcases Nat.mod_two_eq_zero_or_one m with e | e
    · obtain ⟨t, q, hm⟩ := ih (m / 2) (by omega) (by omega)
      refine ⟨t + 1, q, ?_⟩
      have : m = 2 * (m / 2) := by omega
      rw [this, hm, Nat.pow_succ]
      rw [Nat.mul_comm (2 ^ t) 2, Nat.mul_assoc]
    · exact ⟨0, m / 2, by omega⟩
theorem odd_lt {t q n : Nat} (h : 2 ^ t * (2 * q + 1) < 2 ^ n) : t < n := by
  have h1 : 2 ^ t * 1 ≤ 2 ^ t * (2 * q + 1) := Nat.mul_le_mul_left _ (by omega)
  have h2 : 2 ^ t < 2 ^ n := by omega
  exact (Nat.pow_lt_pow_iff_right (by omega)).1 h2
theorem odd_bit (t q j : Nat) : (2 ^ t * (2 * q + 1)).testBit j = (decide (t ≤ j) && (2 * q + 1).testBit (j - t)) := by
  have := Nat.testBit_two_pow_mul (i := t) (a := 2 * q + 1) (j := j)
  simpa using this
theorem odd_even (t q j : Nat) (h : j ≠ t) : (2 ^ t * (2 * q + 1)).testBit j = (2 ^ t * (2 * q)).testBit j := by
  rw [odd_bit, Nat.testBit_two_pow_mul]
  by_cases hj : t ≤ j
  · obtain ⟨k, rfl⟩ : ∃ k, j = t + (k + 1) := ⟨j - t - 1, by omega⟩
    have e : t + (k + 1) - t = k + 1 := by omega
    rw [e, Nat.testBit_succ, Nat.testBit_succ]
    have e1 : (2 * q + 1) / 2 = q := by omega
    have e2 : (2 * q) / 2 = q := by omega
    simp [e1, e2]
  · simp [hj]
theorem even_bit (t q : Nat) : (2 ^ t * (2 * q)).testBit t = false := by
  rw [Nat.testBit_two_pow_mul]
  simp
theorem odd_bit_self (t q : Nat) : (2 ^ t * (2 * q + 1)).testBit t = true := by
  rw [odd_bit]
  simp
theorem odd_bit_below (t q j : Nat) (h : j < t) : (2 ^ t * (2 * q + 1)).testBit j = false := by
  rw [odd_bit]
  simp; omega
theorem odd_pred (t q : Nat) : 2 ^ t * (2 * q + 1) - 1 = 2 ^ t * (2 * q) + (2 ^ t - 1) := by
  have h : 0 < 2 ^ t := Nat.pow_pos (by omega)
  rw [Nat.mul_add, Nat.mul_one]
  omega
theorem pred_bit (t q j : Nat) : (2 ^ t * (2 * q + 1) - 1).testBit j = if j < t then true else (2 ^ t * (2 * q)).testBit j := by
  have h0 : 0 < 2 ^ t := Nat.pow_pos (by omega)
  rw [odd_pred, Nat.testBit_two_pow_mul_add _ (by omega)]
  split
  · rename_i h
    have := Nat.testBit_two_pow_sub_one t j
    rw [this]; simpa using h
  · rename_i h
    rw [Nat.testBit_two_pow_mul]
    simp; omega
/-- The least bit alone. -/
theorem low_bit (t q : Nat) (h : 2 ^ t * (2 * q + 1) < 18446744073709551616) : 2 ^ t * (2 * q + 1) &&& (18446744073709551616 - 2 ^ t * (2 * q + 1)) = 2 ^ t := by
  have ht : t < 64 := odd_lt (n := 64) h
  have h0 : 0 < 2 ^ t * (2 * q + 1) := Nat.mul_pos (Nat.pow_pos (by omega)) (by omega)
  apply Nat.eq_of_testBit_eq
  intro j
  have e : 18446744073709551616 - 2 ^ t * (2 * q + 1) = 2 ^ 64 - (2 ^ t * (2 * q + 1) - 1 + 1) := by omega
  rw [Nat.testBit_and, e, Nat.testBit_two_pow_sub_succ (by omega), pred_bit, Nat.testBit_two_pow]
  rcases Nat.lt_trichotomy j t with hj | hj | hj
  · rw [odd_bit_below _ _ _ hj]; simp; omega
  · subst hj; rw [odd_bit_self, even_bit]; simp; omega
  · rw [odd_even _ _ _ (by omega), if_neg (by omega)]
    have : ¬ t = j := by omega
    simp only [this, decide_false]
    cases (2 ^ t * (2 * q)).testBit j <;> simp
/-- Without the least bit. -/
theorem drop_low (t q : Nat) : 2 ^ t * (2 * q + 1) &&& (2 ^ t * (2 * q + 1) - 1) = 2 ^ t * (2 * q) := by
  apply Nat.eq_of_testBit_eq
  intro j
  rw [Nat.testBit_and, pred_bit]
  rcases Nat.lt_trichotomy j t with hj | hj | hj
  · rw [odd_bit_below _ _ _ hj, Nat.testBit_two_pow_mul]; simp; omega
  · subst hj; rw [even_bit]; simp
  · rw [odd_even _ _ _ (by omega), if_neg (by omega), Bool.and_self]

/-- The members of a set, ascending. -/
def mem64 (m : Nat) : List Nat := (List.range 64).filter fun i => m.testBit i
theorem mem64_zero : mem64 0 = [] := by simp [mem64]
theorem mem64_lt {m i : Nat} (h : i ∈ mem64 m) : i < 64 := by
  simp only [mem64, List.mem_filter, List.mem_range] at h
  exact h.1
theorem mem_mem64 {m i : Nat} : i ∈ mem64 m ↔ i < 64 ∧ m.testBit i = true := by simp [mem64]
theorem mem64_cons (t q : Nat) (ht : t < 64) : mem64 (2 ^ t * (2 * q + 1)) = t :: mem64 (2 ^ t * (2 * q)) := by
  unfold mem64
  have hr : List.range 64 = List.range t ++ t :: List.range' (t + 1) (63 - t) := by
    rw [List.range_eq_range', List.range_eq_range']
    have h1 : List.range' 0 64 = List.range' 0 t ++ List.range' (0 + 1 * t) (64 - t) := by
      rw [List.range'_append]
      congr 1
      omega
    rw [h1]
    congr 1
    rw [show 64 - t = (63 - t) + 1 by omega, List.range'_succ]
    simp
  rw [hr, List.filter_append, List.filter_append, List.filter_cons, List.filter_cons, odd_bit_self, even_bit]
  have h1 : (List.range t).filter (fun i => (2 ^ t * (2 * q + 1)).testBit i) = [] := by
    rw [List.filter_eq_nil_iff]
    intro a ha
    rw [odd_bit_below _ _ _ (List.mem_range.1 ha)]; simp
  have h2 : (List.range t).filter (fun i => (2 ^ t * (2 * q)).testBit i) = [] := by
    rw [List.filter_eq_nil_iff]
    intro a ha
    have := List.mem_range.1 ha
    rw [← odd_even _ _ _ (by omega), odd_bit_below _ _ _ this]; simp
  have h3 : (List.range' (t + 1) (63 - t)).filter (fun i => (2 ^ t * (2 * q + 1)).testBit i) = (List.range' (t + 1) (63 - t)).filter (fun i => (2 ^ t * (2 * q)).testBit i) := by
    apply List.filter_congr
    intro a ha
    rw [List.mem_range'] at ha
    obtain ⟨k, hk, rfl⟩ := ha
    exact odd_even _ _ _ (by omega)
  rw [h1, h2, h3]
  simp
theorem mem64_length (m : Nat) : (mem64 m).length ≤ 64 := by
  have := List.length_filter_le (fun i => m.testBit i) (List.range 64)
  simpa [mem64] using this
end Go.Proofs.YtaooojjhlngcmaaDoor
