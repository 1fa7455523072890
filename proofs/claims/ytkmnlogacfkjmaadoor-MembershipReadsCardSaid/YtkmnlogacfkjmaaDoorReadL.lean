/- Numbers at the front of bytes: what the reader of package wire makes of them, no program in sight. -/
import Derived.Test.YtkmnlogacfkjmaaDoorWire
namespace Go.Proofs.YtkmnlogacfkjmaaDoor
open Go.RowKit
def numGo (v k : Nat) : List Nat → Nat × Nat
  | [] => (0, 0)
  | b :: bs => if k = 0 ∧ b = 128 ∨ 144115188075855871 < v then (0, 0) else if b < 128 then (v * 128 + b % 128, k + 1) else numGo (v * 128 + b % 128) (k + 1) bs
def numR (bs : List Nat) : Nat × Nat := numGo 0 0 bs
theorem numGo_lt : ∀ (bs : List Nat) (v k : Nat), (numGo v k bs).1 < 18446744073709551616
  | [], _, _ => by simp [numGo]
  | b :: bs, v, k => by
    rw [numGo]
    split
    · simp
    · split
      · simp only; omega
      · exact numGo_lt bs _ _
/-- What is read is the encoding of the number. -/
theorem numGo_enc : ∀ (bs : List Nat) (v k : Nat), (∀ b ∈ bs, b < 256) → (k = 0 → v = 0) → (0 < k → 0 < v) → (numGo v k bs).2 ≠ 0 → k < (numGo v k bs).2 ∧ (numGo v k bs).2 - k ≤ bs.length ∧ numHi v ++ bs.take ((numGo v k bs).2 - k) = numB (numGo v k bs).1
  | [], _, _, _, _, _, h => by simp [numGo] at h
  | b :: bs, v, k, hb, h0, h1, h => by
    rw [numGo] at h ⊢
    by_cases hc : k = 0 ∧ b = 128 ∨ 144115188075855871 < v
    · rw [if_pos hc] at h; simp at h
    · rw [if_neg hc] at h ⊢
      have hb0 := hb b (by simp)
      by_cases hl : b < 128
      · rw [if_pos hl]
        refine ⟨by simp, by simp, ?_⟩
        simp only [Nat.add_sub_cancel_left, List.take_succ_cons, List.take_zero]
        rw [numB, show (v * 128 + b % 128) / 128 = v by omega, show (v * 128 + b % 128) % 128 = b by omega]
      · rw [if_neg hl] at h ⊢
        have hv' : v * 128 + b % 128 ≠ 0 := by
          rcases Nat.eq_zero_or_pos k with hk | hk
          · have := h0 hk; omega
          · have := h1 hk; omega
        obtain ⟨g1, g2, g3⟩ := numGo_enc bs (v * 128 + b % 128) (k + 1) (fun x hx => hb x (by simp [hx])) (by omega) (by omega) h
        refine ⟨by omega, by simp only [List.length_cons]; omega, ?_⟩
        rw [← g3, numHi_pos hv', show (v * 128 + b % 128) / 128 = v by omega, show 128 + (v * 128 + b % 128) % 128 = b by omega]
        obtain ⟨d, hd⟩ : ∃ d, (numGo (v * 128 + b % 128) (k + 1) bs).2 - k = d + 1 := ⟨(numGo (v * 128 + b % 128) (k + 1) bs).2 - k - 1, by omega⟩
        rw [hd, List.take_succ_cons, show (numGo (v * 128 + b % 128) (k + 1) bs).2 - (k + 1) = d by omega]
        simp
theorem numR_enc {bs : List Nat} (hb : ∀ b ∈ bs, b < 256) (h : (numR bs).2 ≠ 0) : (numR bs).2 ≤ bs.length ∧ bs.take (numR bs).2 = numB (numR bs).1 := by
  obtain ⟨_, h2, h3⟩ := numGo_enc bs 0 0 hb (fun _ => rfl) (fun h => by omega) h
  rw [numHi_zero, List.nil_append, Nat.sub_zero] at h3
  exact ⟨by simpa [numR] using h2, h3⟩
theorem numR_lt (bs : List Nat) : (numR bs).1 < 18446744073709551616 := numGo_lt bs 0 0
theorem numGo_hi : ∀ (a : Nat) (t : List Nat), a < 144115188075855872 → numGo 0 0 (numHi a ++ t) = numGo a (numHi a).length t := by
  intro a
  induction a using Nat.strongRecOn with
  | _ a ih =>
    intro t ha
    rcases Nat.eq_zero_or_pos a with rfl | h0
    · rw [numHi_zero]; rfl
    · rw [numHi_pos (by omega), List.append_assoc, ih (a / 128) (by omega) _ (by omega), List.length_append]
      simp only [List.cons_append, List.nil_append, List.length_cons, List.length_nil]
      have hl : a / 128 ≠ 0 → 0 < (numHi (a / 128)).length := fun h => by
        rw [numHi_pos h, List.length_append]; simp
      have hg : ¬((numHi (a / 128)).length = 0 ∧ 128 + a % 128 = 128 ∨ 144115188075855871 < a / 128) := by
        rintro (⟨h1, h2⟩ | h2)
        · rcases Nat.eq_zero_or_pos (a / 128) with h3 | h3
          · omega
          · have := hl (by omega); omega
        · omega
      rw [numGo, if_neg hg, if_neg (by omega), show a / 128 * 128 + (128 + a % 128) % 128 = a by omega]
theorem numR_numB {n : Nat} (hn : n < 18446744073709551616) (t : List Nat) : numR (numB n ++ t) = (n, (numB n).length) := by
  rw [numR, numB, List.append_assoc, numGo_hi _ _ (by omega), List.length_append]
  simp only [List.cons_append, List.nil_append, List.length_cons, List.length_nil]
  rw [numGo, if_neg (by omega), if_pos (by omega), show n / 128 * 128 + n % 128 % 128 = n by omega]
/-- A number up to most is read; c: the error where it is greater. -/
def rdU (c : Int) (most : Nat) (e : Int) (bs : List Nat) : Nat × Int × List Nat :=
  if e ≠ 0 then (0, e, bs) else if (numR bs).2 = 0 then (0, 6, bs) else if most < (numR bs).1 then (0, c, bs) else ((numR bs).1, 0, bs.drop (numR bs).2)
theorem rdU_err {c e : Int} {most : Nat} {bs : List Nat} (h : e ≠ 0) : rdU c most e bs = (0, e, bs) := by rw [rdU, if_pos h]
theorem rdU_le {c e : Int} {most : Nat} {bs : List Nat} : (rdU c most e bs).1 ≤ most := by
  rw [rdU]
  split
  · simp
  · split
    · simp
    · split
      · simp
      · simp only; omega
theorem rdU_sub {c e : Int} {most : Nat} {bs : List Nat} : ∃ k, (rdU c most e bs).2.2 = bs.drop k := by
  rw [rdU]
  split
  · exact ⟨0, rfl⟩
  · split
    · exact ⟨0, rfl⟩
    · split
      · exact ⟨0, rfl⟩
      · exact ⟨_, rfl⟩
theorem rdU_numB {c : Int} {most n : Nat} {t : List Nat} (hn : n < 18446744073709551616) (h : n ≤ most) : rdU c most 0 (numB n ++ t) = (n, 0, t) := by
  have := numB_pos n
  rw [rdU, numR_numB hn, if_neg (by simp), if_neg (by simp only; omega), if_neg (by simp only; omega)]
  simp
/-- What was read without an error. -/
theorem rdU_ok {c e : Int} {most : Nat} {bs : List Nat} (hb : ∀ b ∈ bs, b < 256) (hc : c ≠ 0) (h : (rdU c most e bs).2.1 = 0) : e = 0 ∧ bs = numB (rdU c most e bs).1 ++ (rdU c most e bs).2.2 ∧ (rdU c most e bs).1 < 18446744073709551616 := by
  by_cases he : e ≠ 0
  · rw [rdU_err he] at h; exact absurd h he
  · have he0 : e = 0 := Decidable.not_not.1 he
    rw [rdU, if_neg he] at h ⊢
    by_cases h1 : (numR bs).2 = 0
    · rw [if_pos h1] at h; cases h
    · rw [if_neg h1] at h ⊢
      by_cases h2 : most < (numR bs).1
      · rw [if_pos h2] at h; exact absurd h hc
      · rw [if_neg h2]
        refine ⟨he0, ?_, numR_lt bs⟩
        simp only
        rw [← (numR_enc hb h1).2, List.take_append_drop]
theorem numB_lt {n : Nat} : ∀ b ∈ numB n, b < 256 := by
  have hh : ∀ n, ∀ b ∈ numHi n, b < 256 := by
    intro n
    induction n using Nat.strongRecOn with
    | _ n ih =>
      intro b hb
      rcases Nat.eq_zero_or_pos n with rfl | h0
      · rw [numHi_zero] at hb; cases hb
      · rw [numHi_pos (by omega), List.mem_append] at hb
        rcases hb with hb | hb
        · exact ih _ (by omega) b hb
        · simp at hb; omega
  intro b hb
  rw [numB, List.mem_append] at hb
  rcases hb with hb | hb
  · exact hh _ b hb
  · simp at hb; omega
end Go.Proofs.YtkmnlogacfkjmaaDoor
