/- ALL CLOSED SETS, put in order one by one, as the reference does it; they are what the enumeration gives. -/
import Derived.Test.YtoheffglppbcbaaDoorSem
namespace Go.Proofs.YtoheffglppbcbaaDoor
open Go.RowKit
/-- The lectic order, computed. -/
def befB (a b : Nat) : Bool := match (List.range 64).find? (fun i => a.testBit i != b.testBit i) with
  | some i => b.testBit i
  | none => false
theorem befB_iff {a b : Nat} (_ha : a < 18446744073709551616) (hb : b < 18446744073709551616) : befB a b = true ↔ bef a b := by
  unfold befB
  cases hf : (List.range 64).find? (fun i => a.testBit i != b.testBit i) with
  | none =>
    rw [List.find?_range_eq_none] at hf
    refine ⟨fun h => (by cases h), fun ⟨q, _, h1, h2⟩ => ?_⟩
    have hq : q < 64 := by
      rcases Nat.lt_or_ge q 64 with h | h
      · exact h
      · rw [testBit_big hb h] at h2; cases h2
    have := hf q hq
    rw [h1, h2] at this
    simp at this
  | some k =>
    rw [List.find?_range_eq_some] at hf
    obtain ⟨h1, h2, h3⟩ := hf
    have hpre : ∀ i, i < k → a.testBit i = b.testBit i := fun i hi => by simpa using h3 i hi
    refine ⟨fun h => ⟨k, hpre, ?_, h⟩, fun ⟨q, g1, g2, g3⟩ => ?_⟩
    · simp only at h
      rw [h] at h1
      simpa using h1
    · have e : q = k := by
        rcases Nat.lt_trichotomy q k with h | h | h
        · have := hpre q h; rw [g2, g3] at this; cases this
        · exact h
        · have := g1 k h
          simp [this] at h1
      subst e
      exact g3
def insAt (l : List Nat) (s : Nat) : List Nat := l.takeWhile (fun t => befB t s) ++ s :: l.dropWhile (fun t => befB t s)
theorem mem_insAt (l : List Nat) (s b : Nat) : b ∈ insAt l s ↔ b = s ∨ b ∈ l := by
  have h : b ∈ l ↔ b ∈ l.takeWhile (fun t => befB t s) ∨ b ∈ l.dropWhile (fun t => befB t s) := by
    rw [← List.mem_append, List.takeWhile_append_dropWhile]
  rw [insAt, List.mem_append, List.mem_cons, h]
  constructor
  · rintro (h | h | h)
    · exact .inr (.inl h)
    · exact .inl h
    · exact .inr (.inr h)
  · rintro (h | h | h)
    · exact .inr (.inl h)
    · exact .inl h
    · exact .inr (.inr h)
theorem insAt_sorted : ∀ (l : List Nat) (s : Nat), l.Pairwise bef → s ∉ l → s < 18446744073709551616 → (∀ b ∈ l, b < 18446744073709551616) → (insAt l s).Pairwise bef
  | [], s, _, _, _, _ => by simp [insAt]
  | t :: l, s, hl, hs, hlt, hall => by
    have hp := List.pairwise_cons.1 hl
    have hts : t ≠ s := fun e => hs (by simp [e])
    have ht := hall t (by simp)
    cases hb : befB t s with
    | true =>
      have hbt := (befB_iff ht hlt).1 hb
      have ih := insAt_sorted l s hp.2 (fun h => hs (List.mem_cons_of_mem _ h)) hlt (fun b h => hall b (List.mem_cons_of_mem _ h))
      have e : insAt (t :: l) s = t :: insAt l s := by simp [insAt, hb]
      rw [e, List.pairwise_cons]
      refine ⟨fun b hbm => ?_, ih⟩
      rcases (mem_insAt l s b).1 hbm with rfl | h
      · exact hbt
      · exact hp.1 b h
    | false =>
      have e : insAt (t :: l) s = s :: t :: l := by simp [insAt, hb]
      have hst : bef s t := by
        rcases bef_total t s with h | h | h
        · exact absurd h hts
        · rw [(befB_iff ht hlt).2 h] at hb; cases hb
        · exact h
      rw [e, List.pairwise_cons]
      refine ⟨fun b hbm => ?_, hl⟩
      rcases List.mem_cons.1 hbm with rfl | h
      · exact hst
      · exact bef_trans hst (hp.1 b h)
/-- The closed sets below n, in order. -/
def allN (c : Nat) (ms : List Nat) : Nat → List Nat
  | 0 => []
  | n + 1 => if clo c ms n = n then insAt (allN c ms n) n else allN c ms n
def allC (c : Nat) (ms : List Nat) : List Nat := allN c ms (2 ^ c)
theorem mem_allN (c : Nat) (ms : List Nat) (b : Nat) : ∀ n, b ∈ allN c ms n ↔ b < n ∧ clo c ms b = b
  | 0 => by simp [allN]
  | n + 1 => by
    have ih := mem_allN c ms b n
    rw [allN]
    split
    · rename_i h
      rw [mem_insAt, ih]
      constructor
      · rintro (rfl | h')
        · exact ⟨by omega, h⟩
        · exact ⟨by omega, h'.2⟩
      · rintro ⟨h1, h2⟩
        by_cases e : b = n
        · exact .inl e
        · exact .inr ⟨by omega, h2⟩
    · rename_i h
      rw [ih]
      constructor
      · rintro ⟨h1, h2⟩; exact ⟨by omega, h2⟩
      · rintro ⟨h1, h2⟩
        have : b ≠ n := fun e => h (by rw [← e]; exact h2)
        exact ⟨by omega, h2⟩
theorem allN_sorted (c : Nat) (ms : List Nat) : ∀ n, n ≤ 18446744073709551616 → (allN c ms n).Pairwise bef
  | 0, _ => by simp [allN]
  | n + 1, hn => by
    have ih := allN_sorted c ms n (by omega)
    rw [allN]
    split
    · exact insAt_sorted _ _ ih (fun h => by have := ((mem_allN c ms n n).1 h).1; omega) (by omega) (fun b hb => by have := ((mem_allN c ms b n).1 hb).1; omega)
    · exact ih
theorem insAt_length (l : List Nat) (s : Nat) : (insAt l s).length = l.length + 1 := by
  have := congrArg List.length (List.takeWhile_append_dropWhile (p := fun t => befB t s) (l := l))
  simp only [List.length_append] at this
  simp [insAt]; omega
theorem allN_length (c : Nat) (ms : List Nat) : ∀ n, (allN c ms n).length ≤ n
  | 0 => by simp [allN]
  | n + 1 => by
    have ih := allN_length c ms n
    rw [allN]
    split
    · rw [insAt_length]; omega
    · omega
theorem mem_allC {c : Nat} {ms : List Nat} (hr : ms.length ≤ 64) (hc : c < 64) (b : Nat) : b ∈ allC c ms ↔ clo c ms b = b := by
  rw [allC, mem_allN]
  exact ⟨fun h => h.2, fun h => ⟨by rw [← h]; exact clo_lt hr (by omega) b, h⟩⟩
theorem gen_allC {c : Nat} {ms : List Nat} (hr : ms.length ≤ 64) (hc : c < 64) (most : Nat) : gen c ms most (clo c ms 0) = if (allC c ms).length ≤ most then some (allC c ms) else none := by
  have hp : 2 ^ c < 18446744073709551616 := Nat.pow_lt_pow_right (a := 2) (by omega) hc
  have hs : (allC c ms).Pairwise bef := allN_sorted c ms _ (by omega)
  have h0 : clo c ms (clo c ms 0) = clo c ms 0 := clo_idem hr (by omega) 0
  have hleast : ∀ b, clo c ms b = b → b = clo c ms 0 ∨ bef (clo c ms 0) b := fun b hb => by
    have := clo_mono (ms := ms) hr (by omega : c ≤ 64) (a := 0) (b := b) (fun j hj => by simp at hj)
    rw [hb] at this
    rcases bef_of_sub this with e | e
    · exact .inl e.symm
    · exact .inr e
  have hmem := (mem_allC hr hc (clo c ms 0)).2 h0
  cases hl : allC c ms with
  | nil => rw [hl] at hmem; cases hmem
  | cons a l =>
    rw [hl] at hs hmem
    have ha : a = clo c ms 0 := by
      rcases List.mem_cons.1 hmem with e | e
      · exact e.symm
      · have h1 := (List.pairwise_cons.1 hs).1 _ e
        have h2 := (mem_allC (ms := ms) hr hc a).1 (by rw [hl]; simp)
        rcases hleast a h2 with e' | e'
        · exact e'
        · exact (bef_asymm h1 e').elim
    subst ha
    refine gen_eq hr hc most _ l h0 hs fun b => ?_
    rw [← hl, mem_allC hr hc]
    exact ⟨fun h => ⟨h, hleast b h⟩, fun h => h.1⟩
end Go.Proofs.YtoheffglppbcbaaDoor
