/- JOINS AND MEETS: what the lattice computes is what the reference finds. -/
import Derived.Test.YtoheffglppbcbaaDoorMake
namespace Go.Proofs.YtoheffglppbcbaaDoor
open Go.RowKit
theorem and_eq_iff {x y : Nat} : (x &&& y = x) ↔ SubB x y := by
  constructor
  · intro h j hj
    rw [← h, Nat.testBit_and] at hj
    simp at hj
    exact hj.2
  · intro h
    apply Nat.eq_of_testBit_eq
    intro j
    rw [Nat.testBit_and]
    cases hx : x.testBit j with
    | false => rfl
    | true => simp [h j hx]
theorem withinB_iff {x y : Nat} (hx : x < 18446744073709551616) (hy : y < 18446744073709551616) : withinB x y = true ↔ SubB x y := by
  rw [withinB, decide_eq_true_eq]
  constructor
  · intro h j hj
    have h1 : (x &&& (18446744073709551615 - y)).testBit j = false := by rw [h, Nat.zero_testBit]
    rw [Nat.testBit_and, compl_testBit hy, hj] at h1
    have : j < 64 := by
      rcases Nat.lt_or_ge j 64 with h | h
      · exact h
      · rw [testBit_big hx h] at hj; cases hj
    simpa [this] using h1
  · intro h
    apply Nat.eq_of_testBit_eq
    intro j
    rw [Nat.testBit_and, compl_testBit hy, Nat.zero_testBit]
    cases hj : x.testBit j with
    | false => rfl
    | true => simp [h j hj]
theorem sub_and {x y z : Nat} : SubB x (y &&& z) ↔ SubB x y ∧ SubB x z := by
  constructor
  · intro h
    refine ⟨fun j hj => ?_, fun j hj => ?_⟩
    · have := h j hj; rw [Nat.testBit_and] at this; simp at this; exact this.1
    · have := h j hj; rw [Nat.testBit_and] at this; simp at this; exact this.2
  · rintro ⟨h1, h2⟩ j hj
    rw [Nat.testBit_and, h1 j hj, h2 j hj]; rfl
theorem sub_or {x y z : Nat} : SubB (x ||| y) z ↔ SubB x z ∧ SubB y z := by
  constructor
  · intro h
    exact ⟨fun j hj => h j (by rw [Nat.testBit_or, hj]; rfl), fun j hj => h j (by rw [Nat.testBit_or, hj]; simp)⟩
  · rintro ⟨h1, h2⟩ j hj
    rw [Nat.testBit_or] at hj
    simp only [Bool.or_eq_true] at hj
    rcases hj with hj | hj
    · exact h1 j hj
    · exact h2 j hj
theorem allC_lt {c : Nat} {ms : List Nat} (hr : ms.length < 64) (hc : c < 6) {a : Nat} (ha : clo c ms a = a) : a < 2 ^ c := by rw [← ha]; exact clo_lt (by omega) (by omega) a
theorem pow_small {c : Nat} {ms : List Nat} (_hr : ms.length < 64) (hc : c < 6) : 2 ^ c ≤ 32 := by
  have : 2 ^ c ≤ 2 ^ 5 := Nat.pow_le_pow_right (by omega) (by omega)
  omega
theorem hav_small {c : Nat} {ms : List Nat} (hr : ms.length < 64) (hc : c < 6) (a : Nat) : hav c ms a < 18446744073709551616 :=
  Nat.lt_trans (hav_lt (c := c) (ms := ms) (by omega) (by omega) a) (Nat.pow_lt_pow_right (a := 2) (by omega) hr)
theorem sub_hav {c : Nat} {ms : List Nat} (hr : ms.length < 64) (hc : c < 6) {a b : Nat} (ha : clo c ms a = a) (hb : clo c ms b = b) : SubB (hav c ms a) (hav c ms b) ↔ SubB b a := by
  constructor
  · intro h
    have := com_anti (c := c) (ms := ms) (by omega) (by omega) h
    rw [show com c ms (hav c ms b) = clo c ms b from rfl, show com c ms (hav c ms a) = clo c ms a from rfl, ha, hb] at this
    exact this
  · exact fun h => hav_anti (by omega) (by omega) h
theorem closed_at {c : Nat} {ms : List Nat} (hr : ms.length < 64) (hc : c < 6) {i : Nat} (hi : i < (allC c ms).length) : clo c ms (allC c ms)[i] = (allC c ms)[i] := (mem_allC (by omega) (by omega) _).1 (List.getElem_mem hi)
theorem allC_inj {c : Nat} {ms : List Nat} (hr : ms.length < 64) (hc : c < 6) {i j : Nat} (hi : i < (allC c ms).length) (hj : j < (allC c ms).length) (h : (allC c ms)[i] = (allC c ms)[j]) : i = j := by
  have hp := List.pairwise_iff_getElem.1 (allN_sorted c ms (2 ^ c) (by have := pow_small hr hc; omega))
  rcases Nat.lt_trichotomy i j with hlt | e | hlt
  · have h2 : bef (allC c ms)[i] (allC c ms)[j] := hp i j hi hj hlt
    rw [h] at h2; exact (bef_irrefl _ h2).elim
  · exact e
  · have h2 : bef (allC c ms)[j] (allC c ms)[i] := hp j i hj hi hlt
    rw [h] at h2; exact (bef_irrefl _ h2).elim
theorem at_of_closed {c : Nat} {ms : List Nat} (hr : ms.length < 64) (hc : c < 6) {a : Nat} (ha : clo c ms a = a) : ∃ k, ∃ hk : k < (allC c ms).length, (allC c ms)[k] = a := by
  obtain ⟨k, hk, h⟩ := List.getElem_of_mem ((mem_allC (ms := ms) (by omega) (by omega) a).2 ha)
  exact ⟨k, hk, h⟩
theorem allR_at {c : Nat} {ms : List Nat} (_hr : ms.length < 64) (_hc : c < 6) {i : Nat} (hi : i < (allR c ms).length) : (allR c ms)[i] = (hav c ms ((allC c ms)[i]'(by rw [allR, conL_length] at hi; exact hi)), (allC c ms)[i]'(by rw [allR, conL_length] at hi; exact hi)) := by
  simp [allR, conL]
theorem allR_lenC {c : Nat} {ms : List Nat} (_hr : ms.length < 64) (_hc : c < 6) : (allR c ms).length = (allC c ms).length := by rw [allR, conL_length]
theorem leqR_iff {c : Nat} {ms : List Nat} (hr : ms.length < 64) (hc : c < 6) {i j : Nat} (hi : i < (allC c ms).length) (hj : j < (allC c ms).length) : leqR (allR c ms) i j = true ↔ SubB (allC c ms)[j] (allC c ms)[i] := by
  have e := allR_lenC (ms := ms) hr hc
  rw [← sub_hav hr hc (closed_at hr hc hi) (closed_at hr hc hj), ← and_eq_iff]
  have h1 : (allR c ms).getD i (0, 0) = (hav c ms (allC c ms)[i], (allC c ms)[i]) := by simp [List.getD, allR, conL, hi]
  have h2 : (allR c ms).getD j (0, 0) = (hav c ms (allC c ms)[j], (allC c ms)[j]) := by simp [List.getD, allR, conL, hj]
  rw [leqR, h1, h2, decide_eq_true_eq]
theorem leqM_iff {c : Nat} {ms : List Nat} (hr : ms.length < 64) (hc : c < 6) {i j : Nat} (hi : i < (allC c ms).length) (hj : j < (allC c ms).length) : leqM (allR c ms) (i : Int) (j : Int) = true ↔ SubB (allC c ms)[j] (allC c ms)[i] := by
  have e := allR_lenC (ms := ms) hr hc
  rw [← sub_hav hr hc (closed_at hr hc hi) (closed_at hr hc hj)]
  have h1 : inB (allR c ms).length (i : Int) = true := by simp [inB]; omega
  have h2 : inB (allR c ms).length (j : Int) = true := by simp [inB]; omega
  rw [leqM, h1, h2, atM_nat (by omega), atM_nat (by omega), allR_at hr hc (by omega), allR_at hr hc (by omega)]
  simp only [Bool.true_and]
  exact withinB_iff (hav_small hr hc _) (hav_small hr hc _)
theorem leq_eq {c : Nat} {ms : List Nat} (hr : ms.length < 64) (hc : c < 6) {i j : Nat} (hi : i < (allC c ms).length) (hj : j < (allC c ms).length) : leqM (allR c ms) (i : Int) (j : Int) = leqR (allR c ms) i j := bool_eq (by rw [leqM_iff hr hc hi hj, leqR_iff hr hc hi hj])
theorem leqM_out {c : Nat} {ms : List Nat} (_hr : ms.length < 64) (_hc : c < 6) {i j : Int} (h : ¬ (0 ≤ i ∧ i < (allR c ms).length ∧ 0 ≤ j ∧ j < (allR c ms).length)) : leqM (allR c ms) i j = false := by
  rw [leqM]
  by_cases h1 : 0 ≤ i ∧ i < (allR c ms).length
  · have : inB (allR c ms).length j = false := by simp only [inB, decide_eq_false_iff_not]; omega
    rw [this]; simp
  · have : inB (allR c ms).length i = false := by simp only [inB, decide_eq_false_iff_not]; omega
    rw [this]; simp
/-- The number of a closed set of columns. -/
theorem idxM_at {c : Nat} {ms : List Nat} (hr : ms.length < 64) (hc : c < 6) {k : Nat} (hk : k < (allC c ms).length) : idxM (allR c ms) (allC c ms)[k] = some k := by
  have e := allR_lenC (ms := ms) hr hc
  refine findIdx?_at _ _ k (by omega) (fun i hi hik => ?_) ?_
  · have hne : (allC c ms)[i]'(by omega) ≠ (allC c ms)[k] := fun h => by have := allC_inj hr hc (by omega) hk h; omega
    simp only [allR_at hr hc hi]
    simpa using hne
  · simp [allR_at hr hc (by omega : k < (allR c ms).length)]
theorem idxM_none {c : Nat} {ms : List Nat} (hr : ms.length < 64) (hc : c < 6) {a : Nat} (ha : clo c ms a ≠ a) : idxM (allR c ms) a = none := by
  rw [idxM, List.findIdx?_eq_none_iff]
  intro p hp
  obtain ⟨i, hi, rfl⟩ := List.getElem_of_mem hp
  have e := allR_lenC (ms := ms) hr hc
  rw [allR_at hr hc hi]
  have h1 := closed_at (ms := ms) hr hc (i := i) (by omega)
  simp only [beq_eq_false_iff_ne]
  intro h2
  rw [h2] at h1
  exact ha h1
theorem closed_and {c : Nat} {ms : List Nat} (hr : ms.length < 64) (hc : c < 6) {a b : Nat} (ha : clo c ms a = a) (hb : clo c ms b = b) : clo c ms (a &&& b) = a &&& b := by
  have h1 : SubB (a &&& b) a := (sub_and.1 (SubB.refl (a &&& b))).1
  have h2 : SubB (a &&& b) b := (sub_and.1 (SubB.refl (a &&& b))).2
  have hlt : a &&& b < 2 ^ c := Nat.lt_of_le_of_lt Nat.and_le_left (allC_lt hr hc ha)
  refine SubB.antisymm (sub_and.2 ⟨?_, ?_⟩) (clo_ext (by omega) (by omega) hlt)
  · have := clo_mono (c := c) (ms := ms) (by omega) (by omega) h1; rwa [ha] at this
  · have := clo_mono (c := c) (ms := ms) (by omega) (by omega) h2; rwa [hb] at this
theorem or_lt {c : Nat} {ms : List Nat} (hr : ms.length < 64) (hc : c < 6) {a b : Nat} (ha : clo c ms a = a) (hb : clo c ms b = b) : a ||| b < 2 ^ c := Nat.or_lt_two_pow (allC_lt hr hc ha) (allC_lt hr hc hb)
theorem clo_or_iff {c : Nat} {ms : List Nat} (hr : ms.length < 64) (hc : c < 6) {a b x : Nat} (ha : clo c ms a = a) (hb : clo c ms b = b) (hx : clo c ms x = x) : SubB (clo c ms (a ||| b)) x ↔ SubB a x ∧ SubB b x := by
  rw [← sub_or]
  constructor
  · exact fun h => (clo_ext (by omega) (by omega) (or_lt hr hc ha hb)).trans h
  · intro h
    have := clo_mono (c := c) (ms := ms) (by omega) (by omega) h
    rwa [hx] at this
/-- The number of the join. -/
theorem join_at {c : Nat} {ms : List Nat} (hr : ms.length < 64) (hc : c < 6) {i j : Nat} (hi : i < (allC c ms).length) (hj : j < (allC c ms).length) : ∃ k, ∃ hk : k < (allC c ms).length, (allC c ms)[k] = (allC c ms)[i] &&& (allC c ms)[j] ∧ joinM (allR c ms) (i : Int) (j : Int) = some k ∧ joinR (allR c ms) i j = some k := by
  have e := allR_lenC (ms := ms) hr hc
  obtain ⟨k, hk, hka⟩ := at_of_closed hr hc (closed_and hr hc (closed_at hr hc hi) (closed_at hr hc hj))
  refine ⟨k, hk, hka, ?_, ?_⟩
  · have h1 : inB (allR c ms).length (i : Int) = true := by simp [inB]; omega
    have h2 : inB (allR c ms).length (j : Int) = true := by simp [inB]; omega
    rw [joinM, h1, h2, if_pos (show (true && true) = true from rfl), atM_nat (by omega), atM_nat (by omega), allR_at hr hc (by omega), allR_at hr hc (by omega)]
    simp only
    rw [← hka]
    exact idxM_at hr hc hk
  · have hiff : ∀ q, ∀ hq : q < (allC c ms).length, lstB (allR c ms) i j q (allR c ms).length = true ↔ (allC c ms)[q] = (allC c ms)[i] &&& (allC c ms)[j] := fun q hq => by
      simp only [lstB, Bool.and_eq_true, List.all_eq_true, List.mem_range, Bool.not_eq_true', Bool.and_eq_false_iff]
      rw [leqR_iff hr hc hi hq, leqR_iff hr hc hj hq]
      constructor
      · rintro ⟨⟨h1, h2⟩, h3⟩
        refine SubB.antisymm (sub_and.2 ⟨h1, h2⟩) ?_
        have g1 : leqR (allR c ms) i k = true := (leqR_iff hr hc hi hk).2 (by rw [hka]; exact (sub_and.1 (SubB.refl _)).1)
        have g2 : leqR (allR c ms) j k = true := (leqR_iff hr hc hj hk).2 (by rw [hka]; exact (sub_and.1 (SubB.refl _)).2)
        rcases h3 k (by omega) with (h | h) | h
        · rw [g1] at h; cases h
        · rw [g2] at h; cases h
        · have := (leqR_iff hr hc hq hk).1 (by simpa using h)
          rw [hka] at this; exact this
      · intro h
        refine ⟨⟨by rw [h]; exact (sub_and.1 (SubB.refl _)).1, by rw [h]; exact (sub_and.1 (SubB.refl _)).2⟩, fun p hp => ?_⟩
        cases g1 : leqR (allR c ms) i p with
        | false => exact .inl (.inl rfl)
        | true =>
          cases g2 : leqR (allR c ms) j p with
          | false => exact .inl (.inr rfl)
          | true =>
            right
            have : leqR (allR c ms) q p = true := (leqR_iff hr hc hq (by omega)).2 (by rw [h]; exact sub_and.2 ⟨(leqR_iff hr hc hi (by omega)).1 g1, (leqR_iff hr hc hj (by omega)).1 g2⟩)
            rw [this]; rfl
    refine find_first (by omega) ((hiff k hk).2 hka) fun q hq => ?_
    cases hb : lstB (allR c ms) i j q (allR c ms).length with
    | false => rfl
    | true =>
      have h1 := (hiff q (by omega)).1 hb
      have := allC_inj hr hc (by omega) hk (h1.trans hka.symm)
      omega
/-- The number of the meet. -/
theorem meet_at {c : Nat} {ms : List Nat} (hr : ms.length < 64) (hc : c < 6) {i j : Nat} (hi : i < (allC c ms).length) (hj : j < (allC c ms).length) : ∃ k, ∃ hk : k < (allC c ms).length, (allC c ms)[k] = clo c ms ((allC c ms)[i] ||| (allC c ms)[j]) ∧ meetM c ms (allR c ms) (i : Int) (j : Int) = some k ∧ meetR (allR c ms) i j = some k := by
  have e := allR_lenC (ms := ms) hr hc
  have ci := closed_at (ms := ms) hr hc hi
  have cj := closed_at (ms := ms) hr hc hj
  obtain ⟨k, hk, hka⟩ := at_of_closed hr hc (clo_idem (c := c) (ms := ms) (by omega) (by omega) ((allC c ms)[i] ||| (allC c ms)[j]))
  refine ⟨k, hk, hka, ?_, ?_⟩
  · have h1 : inB (allR c ms).length (i : Int) = true := by simp [inB]; omega
    have h2 : inB (allR c ms).length (j : Int) = true := by simp [inB]; omega
    rw [meetM, h1, h2, if_pos (show (true && true) = true from rfl), atM_nat (by omega), atM_nat (by omega), allR_at hr hc (by omega), allR_at hr hc (by omega)]
    simp only
    rw [← hka]
    exact idxM_at hr hc hk
  · have hkk : SubB (allC c ms)[i] (allC c ms)[k] ∧ SubB (allC c ms)[j] (allC c ms)[k] := by
      rw [hka]
      exact (clo_or_iff hr hc ci cj (clo_idem (by omega) (by omega) _)).1 (SubB.refl _)
    have hiff : ∀ q, ∀ hq : q < (allC c ms).length, gstB (allR c ms) i j q (allR c ms).length = true ↔ (allC c ms)[q] = (allC c ms)[k] := fun q hq => by
      have cq := closed_at (ms := ms) hr hc hq
      simp only [gstB, Bool.and_eq_true, List.all_eq_true, List.mem_range, Bool.not_eq_true', Bool.and_eq_false_iff]
      rw [leqR_iff hr hc hq hi, leqR_iff hr hc hq hj]
      constructor
      · rintro ⟨⟨h1, h2⟩, h3⟩
        refine SubB.antisymm ?_ (by rw [hka]; exact (clo_or_iff hr hc ci cj cq).2 ⟨h1, h2⟩)
        have g1 : leqR (allR c ms) k i = true := (leqR_iff hr hc hk hi).2 hkk.1
        have g2 : leqR (allR c ms) k j = true := (leqR_iff hr hc hk hj).2 hkk.2
        rcases h3 k (by omega) with (h | h) | h
        · rw [g1] at h; cases h
        · rw [g2] at h; cases h
        · exact (leqR_iff hr hc hk hq).1 (by simpa using h)
      · intro h
        refine ⟨⟨by rw [h]; exact hkk.1, by rw [h]; exact hkk.2⟩, fun p hp => ?_⟩
        cases g1 : leqR (allR c ms) p i with
        | false => exact .inl (.inl rfl)
        | true =>
          cases g2 : leqR (allR c ms) p j with
          | false => exact .inl (.inr rfl)
          | true =>
            right
            have : leqR (allR c ms) p q = true := (leqR_iff hr hc (by omega) hq).2 (by
              rw [h, hka]
              exact (clo_or_iff hr hc ci cj (closed_at hr hc (by omega))).2 ⟨(leqR_iff hr hc (by omega) hi).1 g1, (leqR_iff hr hc (by omega) hj).1 g2⟩)
            rw [this]; rfl
    refine find_first (by omega) ((hiff k hk).2 rfl) fun q hq => ?_
    cases hb : gstB (allR c ms) i j q (allR c ms).length with
    | false => rfl
    | true =>
      have h1 := (hiff q (by omega)).1 hb
      have := allC_inj hr hc (by omega) hk h1
      omega
end Go.Proofs.YtoheffglppbcbaaDoor
