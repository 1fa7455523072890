/- What the law's proof rests on: the engine, a small separation logic over the kit's walk, and contracts of the functions that the law reaches. Part 1. -/
import Derived.WalkKit
import Derived.OrdersHeld
import Derived.Deep.MidRow
import Derived.KernelRfl
import Derived.StillTail
import Derived.OrdersIn
import Derived.TacticsIn
import Derived.LoopNIn
import Derived.RangeFuncLeaves
import Derived.RangeFuncFrom
import Derived.Maps.AppendAt
import Derived.Test.YtmfiencoefbjfaaGreatDoorProg
namespace Go.Proofs.YtmfiencoefbjfaaGreatDoor
theorem odd_part : ∀ (m : Nat), 0 < m → ∃ t q, m = 2 ^ t * (2 * q + 1) := by
  intro m
  induction m using Nat.strongRecOn with
  | _ m ih =>
    intro h
    rcases Nat.mod_two_eq_zero_or_one m with e | e
    · obtain ⟨t, q, hm⟩ := ih (m / 2) (by omega) (by omega)
      refine ⟨t + 1, q, ?_⟩
      have : m = 2 * (m / 2) := by omega
      rw [this, hm, Nat.pow_succ]
      rw [Nat.mul_comm (2 ^ t) 2, Nat.mul_assoc]
    · exact ⟨0, m / 2, by omega⟩
theorem odd_lt {t q n : Nat} (h : 2 ^ t * (2 * q + 1) < 2 ^ n) : t < n := by
  have h1 : 2 ^ t * 1 ≤ 2 ^ t * (2 * q + 1) := Nat.mul_le_mul_left _ (by omega)
  have h2 : 2 ^ t < 2 ^ n := by omega
  exact (Nat.pow_lt_pow_iff_right (by omega)).1 h2
theorem odd_bit (t q j : Nat) : (2 ^ t * (2 * q + 1)).testBit j = (decide (t ≤ j) && (2 * q + 1).testBit (j - t)) := by
  have := Nat.testBit_two_pow_mul (i := t) (a := 2 * q + 1) (j := j)
  simpa using this
theorem odd_even (t q j : Nat) (h : j ≠ t) : (2 ^ t * (2 * q + 1)).testBit j = (2 ^ t * (2 * q)).testBit j := by
  rw [odd_bit, Nat.testBit_two_pow_mul]
  by_cases hj : t ≤ j
  · obtain ⟨k, rfl⟩ : ∃ k, j = t + (k + 1) := ⟨j - t - 1, by omega⟩
    have e : t + (k + 1) - t = k + 1 := by omega
    rw [e, Nat.testBit_succ, Nat.testBit_succ]
    have e1 : (2 * q + 1) / 2 = q := by omega
    have e2 : (2 * q) / 2 = q := by omega
    simp [e1, e2]
  · simp [hj]
theorem even_bit (t q : Nat) : (2 ^ t * (2 * q)).testBit t = false := by
  rw [Nat.testBit_two_pow_mul]
  simp
theorem odd_bit_self (t q : Nat) : (2 ^ t * (2 * q + 1)).testBit t = true := by
  rw [odd_bit]
  simp
theorem odd_bit_below (t q j : Nat) (h : j < t) : (2 ^ t * (2 * q + 1)).testBit j = false := by
  rw [odd_bit]
  simp; omega
theorem odd_pred (t q : Nat) : 2 ^ t * (2 * q + 1) - 1 = 2 ^ t * (2 * q) + (2 ^ t - 1) := by
  have h : 0 < 2 ^ t := Nat.pow_pos (by omega)
  rw [Nat.mul_add, Nat.mul_one]
  omega
theorem pred_bit (t q j : Nat) : (2 ^ t * (2 * q + 1) - 1).testBit j = if j < t then true else (2 ^ t * (2 * q)).testBit j := by
  have h0 : 0 < 2 ^ t := Nat.pow_pos (by omega)
  rw [odd_pred, Nat.testBit_two_pow_mul_add _ (by omega)]
  split
  · rename_i h
    have := Nat.testBit_two_pow_sub_one t j
    rw [this]; simpa using h
  · rename_i h
    rw [Nat.testBit_two_pow_mul]
    simp; omega
/-- The least bit alone. -/
theorem low_bit (t q : Nat) (h : 2 ^ t * (2 * q + 1) < 18446744073709551616) : 2 ^ t * (2 * q + 1) &&& (18446744073709551616 - 2 ^ t * (2 * q + 1)) = 2 ^ t := by
  have ht : t < 64 := odd_lt (n := 64) h
  have h0 : 0 < 2 ^ t * (2 * q + 1) := Nat.mul_pos (Nat.pow_pos (by omega)) (by omega)
  apply Nat.eq_of_testBit_eq
  intro j
  have e : 18446744073709551616 - 2 ^ t * (2 * q + 1) = 2 ^ 64 - (2 ^ t * (2 * q + 1) - 1 + 1) := by omega
  rw [Nat.testBit_and, e, Nat.testBit_two_pow_sub_succ (by omega), pred_bit, Nat.testBit_two_pow]
  rcases Nat.lt_trichotomy j t with hj | hj | hj
  · rw [odd_bit_below _ _ _ hj]; simp; omega
  · subst hj; rw [odd_bit_self, even_bit]; simp; omega
  · rw [odd_even _ _ _ (by omega), if_neg (by omega)]
    have : ¬ t = j := by omega
    simp only [this, decide_false]
    cases (2 ^ t * (2 * q)).testBit j <;> simp
/-- Without the least bit. -/
theorem drop_low (t q : Nat) : 2 ^ t * (2 * q + 1) &&& (2 ^ t * (2 * q + 1) - 1) = 2 ^ t * (2 * q) := by
  apply Nat.eq_of_testBit_eq
  intro j
  rw [Nat.testBit_and, pred_bit]
  rcases Nat.lt_trichotomy j t with hj | hj | hj
  · rw [odd_bit_below _ _ _ hj, Nat.testBit_two_pow_mul]; simp; omega
  · subst hj; rw [even_bit]; simp
  · rw [odd_even _ _ _ (by omega), if_neg (by omega), Bool.and_self]

/-- The members of a set, ascending. -/
def mem64 (m : Nat) : List Nat := (List.range 64).filter fun i => m.testBit i
theorem mem64_zero : mem64 0 = [] := by simp [mem64]
theorem mem_mem64 {m i : Nat} : i ∈ mem64 m ↔ i < 64 ∧ m.testBit i = true := by simp [mem64]
theorem mem64_cons (t q : Nat) (ht : t < 64) : mem64 (2 ^ t * (2 * q + 1)) = t :: mem64 (2 ^ t * (2 * q)) := by
  unfold mem64
  have hr : List.range 64 = List.range t ++ t :: List.range' (t + 1) (63 - t) := by
    rw [List.range_eq_range', List.range_eq_range']
    have h1 : List.range' 0 64 = List.range' 0 t ++ List.range' (0 + 1 * t) (64 - t) := by
      rw [List.range'_append]
      congr 1
      omega
    rw [h1]
    congr 1
    rw [show 64 - t = (63 - t) + 1 by omega, List.range'_succ]
    simp
  rw [hr, List.filter_append, List.filter_append, List.filter_cons, List.filter_cons, odd_bit_self, even_bit]
  have h1 : (List.range t).filter (fun i => (2 ^ t * (2 * q + 1)).testBit i) = [] := by
    rw [List.filter_eq_nil_iff]
    intro a ha
    rw [odd_bit_below _ _ _ (List.mem_range.1 ha)]; simp
  have h2 : (List.range t).filter (fun i => (2 ^ t * (2 * q)).testBit i) = [] := by
    rw [List.filter_eq_nil_iff]
    intro a ha
    have := List.mem_range.1 ha
    rw [← odd_even _ _ _ (by omega), odd_bit_below _ _ _ this]; simp
  have h3 : (List.range' (t + 1) (63 - t)).filter (fun i => (2 ^ t * (2 * q + 1)).testBit i) = (List.range' (t + 1) (63 - t)).filter (fun i => (2 ^ t * (2 * q)).testBit i) := by
    apply List.filter_congr
    intro a ha
    rw [List.mem_range'] at ha
    obtain ⟨k, hk, rfl⟩ := ha
    exact odd_even _ _ _ (by omega)
  rw [h1, h2, h3]
  simp
theorem mem64_length (m : Nat) : (mem64 m).length ≤ 64 := by
  have := List.length_filter_le (fun i => m.testBit i) (List.range 64)
  simpa [mem64] using this
end Go.Proofs.YtmfiencoefbjfaaGreatDoor
namespace Go.Proofs.YtmfiencoefbjfaaGreatDoor
/-- Is this one uncovered? -/
def inO (o : List Nat) (i j : Nat) : Bool := (o.getD i 0).testBit j
/-- Does rectangle number k contain the cell? -/
def hasC (L : List (Nat × Nat)) (k i j : Nat) : Bool := (L.getD k (0, 0)).1.testBit i && (L.getD k (0, 0)).2.testBit j
/-- Less one bit mask. -/
def minB (s t : Nat) : Nat := s &&& (18446744073709551615 - t)
def withoutM (o : List Nat) (p : Nat × Nat) : List Nat := o.mapIdx fun i s => if p.1.testBit i then minB s p.2 else s
def sizeM (o : List Nat) : Nat := (o.map fun s => (mem64 s).length).sum
def gainL (o : List Nat) (p : Nat × Nat) (l : List Nat) : Nat := (l.map fun i => (mem64 (o.getD i 0 &&& p.2)).length).sum
def gainM (o : List Nat) (p : Nat × Nat) : Nat := gainL o p (mem64 p.1)
def mostM (L : List (Nat × Nat)) (o : List Nat) : Nat := (L.map (gainM o)).foldl max 0
def aroundM (L : List (Nat × Nat)) (i j fr : Nat) : List Nat := (List.range L.length).filter fun k => decide (fr ≤ k) && hasC L k i j
/-- b rectangles with numbers from fr on cover the ones. -/
def cov (L : List (Nat × Nat)) (o : List Nat) (b fr : Nat) : Prop := ∃ ks : List Nat, ks.length ≤ b ∧ (∀ k ∈ ks, fr ≤ k ∧ k < L.length) ∧ ∀ i j, inO o i j = true → ∃ k ∈ ks, hasC L k i j = true
/-- All are words. -/
def Wds (o : List Nat) : Prop := ∀ s ∈ o, s < 18446744073709551616
theorem minB_testBit {s t j : Nat} (hs : s < 18446744073709551616) (ht : t < 18446744073709551616) : (minB s t).testBit j = (s.testBit j && !t.testBit j) := by
  have e : (18446744073709551615 - t).testBit j = (decide (j < 64) && !t.testBit j) := by
    have := Nat.testBit_two_pow_sub_succ (x := t) (n := 64) ht j
    rw [show 2 ^ 64 - (t + 1) = 18446744073709551615 - t by omega] at this
    exact this
  rw [minB, Nat.testBit_and, e]
  rcases Nat.lt_or_ge j 64 with h | h
  · simp [h]
  · rw [Nat.testBit_lt_two_pow (Nat.lt_of_lt_of_le hs (Nat.pow_le_pow_right (n := 2) (by omega) h))]
    simp
theorem minB_lt {s t : Nat} (hs : s < 18446744073709551616) : minB s t < 18446744073709551616 := Nat.lt_of_le_of_lt Nat.and_le_left hs
theorem inO_without {o : List Nat} {p : Nat × Nat} {i j : Nat} (ho : Wds o) (hp : p.2 < 18446744073709551616) : inO (withoutM o p) i j = (inO o i j && !(p.1.testBit i && p.2.testBit j)) := by
  unfold inO withoutM
  rw [List.getD_eq_getElem?_getD, List.getElem?_mapIdx, List.getD_eq_getElem?_getD]
  cases h : o[i]? with
  | none => simp
  | some s =>
    have hs : s < 18446744073709551616 := ho s (List.mem_of_getElem? h)
    simp only [Option.map_some, Option.getD_some]
    split
    · rename_i h1; rw [minB_testBit hs hp]; simp [h1]
    · rename_i h1; simp [h1]
theorem wds_without {o : List Nat} {p : Nat × Nat} (ho : Wds o) : Wds (withoutM o p) := fun s hs => by
  obtain ⟨i, hi, rfl⟩ := List.getElem_of_mem hs
  simp only [withoutM, List.getElem_mapIdx]
  split
  · exact minB_lt (ho _ (List.getElem_mem _))
  · exact ho _ (List.getElem_mem _)
theorem without_len (o : List Nat) (p : Nat × Nat) : (withoutM o p).length = o.length := by simp [withoutM]
theorem mem64_nil {s : Nat} (hs : s < 18446744073709551616) : (mem64 s).length = 0 ↔ ∀ j, s.testBit j = false := by
  rw [List.length_eq_zero_iff, List.eq_nil_iff_forall_not_mem]
  constructor
  · intro h j
    rcases Nat.lt_or_ge j 64 with hj | hj
    · have := h j
      rw [mem_mem64] at this
      simpa [hj] using this
    · exact Nat.testBit_lt_two_pow (Nat.lt_of_lt_of_le hs (Nat.pow_le_pow_right (n := 2) (by omega) hj))
  · intro h j hj
    rw [mem_mem64, h j] at hj
    simp at hj
theorem sizeM_zero {o : List Nat} (ho : Wds o) : sizeM o = 0 ↔ ∀ i j, inO o i j = false := by
  have key : sizeM o = 0 ↔ ∀ s ∈ o, (mem64 s).length = 0 := by
    unfold sizeM
    induction o with
    | nil => simp
    | cons s o ih => rw [List.map_cons, List.sum_cons, Nat.add_eq_zero_iff, ih fun t ht => ho t (by simp [ht])]; simp
  rw [key]
  constructor
  · intro h i j
    unfold inO
    rw [List.getD_eq_getElem?_getD]
    cases hh : o[i]? with
    | none => simp
    | some s =>
      have hs := List.mem_of_getElem? hh
      exact (mem64_nil (ho s hs)).1 (h s hs) j
  · intro h s hs
    obtain ⟨i, hi, rfl⟩ := List.getElem_of_mem hs
    exact (mem64_nil (ho _ (List.getElem_mem _))).2 fun j => by have := h i j; simpa [inO, hi] using this
/-- The ones of a word, split by a mask. -/
theorem mem64_split {s t : Nat} (hs : s < 18446744073709551616) (ht : t < 18446744073709551616) : (mem64 s).length = (mem64 (minB s t)).length + (mem64 (s &&& t)).length := by
  have key : ∀ l : List Nat, (l.filter fun i => s.testBit i).length = (l.filter fun i => (minB s t).testBit i).length + (l.filter fun i => (s &&& t).testBit i).length := by
    intro l
    induction l with
    | nil => rfl
    | cons a l ih =>
      simp only [List.filter_cons, minB_testBit hs ht, Nat.testBit_and] at ih ⊢
      cases s.testBit a <;> cases t.testBit a <;> simp <;> omega
  exact key _
theorem gainL_zero (o : List Nat) (p : Nat × Nat) (l : List Nat) (h : ∀ i ∈ l, o.length ≤ i) : gainL o p l = 0 := by
  unfold gainL
  induction l with
  | nil => rfl
  | cons i l ih =>
    have hi : o.getD i 0 = 0 := by rw [List.getD_eq_getElem?_getD, List.getElem?_eq_none (h i (by simp))]; rfl
    rw [List.map_cons, List.sum_cons, ih fun i hi => h i (by simp [hi]), hi, Nat.zero_and, mem64_zero]
    rfl
/-- What is uncovered is what stays uncovered, and what is gained. -/
theorem size_split {o : List Nat} {p : Nat × Nat} (ho : Wds o) (hp : p.2 < 18446744073709551616) (hl : o.length ≤ 64) : sizeM o = sizeM (withoutM o p) + gainM o p := by
  have key : ∀ n, n ≤ o.length → sizeM (o.take n) = sizeM ((withoutM o p).take n) + gainL o p ((List.range n).filter fun i => p.1.testBit i) := by
    intro n
    induction n with
    | zero => intro _; simp [sizeM, gainL]
    | succ n ih =>
      intro hn
      have h1 : n < o.length := by omega
      have h2 : n < (withoutM o p).length := by rw [without_len]; omega
      have hw : (withoutM o p)[n] = if p.1.testBit n then minB o[n] p.2 else o[n] := by simp [withoutM]
      have ih := ih (by omega)
      unfold sizeM gainL at *
      rw [List.take_succ_eq_append_getElem h1, List.take_succ_eq_append_getElem h2, List.map_append, List.map_append, List.sum_append, List.sum_append, ih, List.range_succ, List.filter_append, List.map_append, List.sum_append]
      simp only [List.map_cons, List.map_nil, List.sum_cons, List.sum_nil, List.filter_cons, List.filter_nil]
      rw [hw]
      split
      · simp only [List.map_cons, List.map_nil, List.sum_cons, List.sum_nil]
        rw [mem64_split (ho _ (List.getElem_mem h1)) hp, List.getD_eq_getElem?_getD, List.getElem?_eq_getElem h1, Option.getD_some]
        omega
      · simp
        omega
  have h := key o.length (Nat.le_refl _)
  rw [List.take_length, List.take_of_length_le (by rw [without_len]; omega)] at h
  rw [h, gainM, mem64]
  congr 1
  obtain ⟨d, hd⟩ : ∃ d, 64 = o.length + d := ⟨64 - o.length, by omega⟩
  rw [hd, List.range_add, List.filter_append]
  have e : ∀ a b, gainL o p (a ++ b) = gainL o p a + gainL o p b := fun a b => by simp [gainL]
  rw [e, gainL_zero o p (List.filter _ (List.map _ _)) fun i hi => by
    simp only [List.mem_filter, List.mem_map] at hi
    obtain ⟨⟨a, _, rfl⟩, _⟩ := hi
    omega]
  rfl
theorem foldl_max_le (l : List Nat) : ∀ a x, (x = a ∨ x ∈ l) → x ≤ l.foldl max a := by
  induction l with
  | nil => intro a x h; simp at h; simp [h]
  | cons y l ih =>
    intro a x h
    rw [List.foldl_cons]
    rcases h with rfl | h
    · exact Nat.le_trans (Nat.le_max_left x y) (ih _ _ (.inl rfl))
    · rcases List.mem_cons.1 h with rfl | h
      · exact Nat.le_trans (Nat.le_max_right a x) (ih _ _ (.inl rfl))
      · exact ih _ _ (.inr h)
theorem gain_most {L : List (Nat × Nat)} {o : List Nat} {k : Nat} (hk : k < L.length) : gainM o (L.getD k (0, 0)) ≤ mostM L o := by
  refine foldl_max_le _ _ _ (.inr ?_)
  rw [List.mem_map]
  exact ⟨_, by rw [List.getD_eq_getElem?_getD, List.getElem?_eq_getElem hk]; exact List.getElem_mem hk, rfl⟩
theorem gain_mono {o o' : List Nat} {p : Nat × Nat} (h : ∀ i j, inO o' i j = true → inO o i j = true) : gainM o' p ≤ gainM o p := by
  unfold gainM gainL
  induction mem64 p.1 with
  | nil => simp
  | cons a l ih =>
    simp only [List.map_cons, List.sum_cons]
    have : (mem64 (o'.getD a 0 &&& p.2)).length ≤ (mem64 (o.getD a 0 &&& p.2)).length := by
      unfold mem64
      rw [← List.countP_eq_length_filter, ← List.countP_eq_length_filter]
      refine List.countP_mono_left fun j _ hj => ?_
      rw [Nat.testBit_and, Bool.and_eq_true] at hj ⊢
      exact ⟨h a j hj.1, hj.2⟩
    omega
/-- Are there more ones than b rectangles can cover, then they do not. -/
theorem bound_not {L : List (Nat × Nat)} {o : List Nat} {b fr : Nat} (hL : ∀ p ∈ L, p.2 < 18446744073709551616) (ho : Wds o) (hl : o.length ≤ 64) (h : b * mostM L o < sizeM o) : ¬ cov L o b fr := by
  rintro ⟨ks, h1, h2, h3⟩
  have hget : ∀ k, k < L.length → (L.getD k (0, 0)).2 < 18446744073709551616 := fun k hk => hL _ (by rw [List.getD_eq_getElem?_getD, List.getElem?_eq_getElem hk]; exact List.getElem_mem hk)
  have key : ∀ (ks : List Nat) (o' : List Nat), Wds o' → o'.length ≤ 64 → (∀ i j, inO o' i j = true → inO o i j = true) → (∀ k ∈ ks, k < L.length) → (∀ i j, inO o' i j = true → ∃ k ∈ ks, hasC L k i j = true) → sizeM o' ≤ ks.length * mostM L o := by
    intro ks
    induction ks with
    | nil =>
      intro o' w _ _ _ hc
      have : sizeM o' = 0 := (sizeM_zero w).2 fun i j => by
        cases hh : inO o' i j with
        | false => rfl
        | true => obtain ⟨k, hk, _⟩ := hc i j hh; cases hk
      omega
    | cons k ks ih =>
      intro o' w hl' hsub hks hc
      have hk := hks k (by simp)
      have e := size_split (p := L.getD k (0, 0)) w (hget k hk) hl'
      have g1 : gainM o' (L.getD k (0, 0)) ≤ mostM L o := Nat.le_trans (gain_mono hsub) (gain_most hk)
      have g2 := ih (withoutM o' (L.getD k (0, 0))) (wds_without w) (by rw [without_len]; exact hl') (fun i j hij => by
        rw [inO_without w (hget k hk), Bool.and_eq_true] at hij
        exact hsub i j hij.1) (fun k' h' => hks k' (by simp [h'])) (fun i j hij => by
        rw [inO_without w (hget k hk), Bool.and_eq_true] at hij
        obtain ⟨k', hk', hh⟩ := hc i j hij.1
        rcases List.mem_cons.1 hk' with rfl | hk'
        · rw [hasC] at hh; rw [hh] at hij; simp at hij
        · exact ⟨k', hk', hh⟩)
      rw [List.length_cons, Nat.succ_mul]
      omega
  have := key ks o ho hl (fun _ _ h => h) (fun k hk => (h2 k hk).2) h3
  have : ks.length * mostM L o ≤ b * mostM L o := Nat.mul_le_mul_right _ h1
  omega
theorem mem_around {L : List (Nat × Nat)} {i j fr k : Nat} : k ∈ aroundM L i j fr ↔ k < L.length ∧ fr ≤ k ∧ hasC L k i j = true := by simp [aroundM]
section
variable {L : List (Nat × Nat)} (hL : ∀ p ∈ L, p.2 < 18446744073709551616)
include hL
theorem getD_lt {k : Nat} : (L.getD k (0, 0)).2 < 18446744073709551616 := by
  rw [List.getD_eq_getElem?_getD]
  cases h : L[k]? with
  | none => simp
  | some p => exact hL p (List.mem_of_getElem? h)
theorem inO_step {o : List Nat} {k i j : Nat} (ho : Wds o) : inO (withoutM o (L.getD k (0, 0))) i j = (inO o i j && !hasC L k i j) := inO_without ho (getD_lt hL)
/-- A cover begins with a rectangle around a cell. -/
theorem cov_branch {o : List Nat} {b fr i j : Nat} (ho : Wds o) (hij : inO o i j = true) : cov L o (b + 1) fr ↔ ∃ k ∈ aroundM L i j fr, cov L (withoutM o (L.getD k (0, 0))) b fr := by
  constructor
  · rintro ⟨ks, h1, h2, h3⟩
    obtain ⟨k, hk, hh⟩ := h3 i j hij
    refine ⟨k, mem_around.2 ⟨(h2 k hk).2, (h2 k hk).1, hh⟩, ks.filter (· ≠ k), ?_, fun k' hk' => h2 k' (List.mem_filter.1 hk').1, fun i' j' h' => ?_⟩
    · have : (ks.filter (· ≠ k)).length < ks.length := by
        rw [← List.countP_eq_length_filter]
        refine Nat.lt_of_le_of_ne List.countP_le_length fun he => ?_
        have := List.countP_eq_length.1 he k hk
        simp at this
      omega
    · rw [inO_step hL ho, Bool.and_eq_true, Bool.not_eq_true'] at h'
      obtain ⟨k', hk', hh'⟩ := h3 i' j' h'.1
      refine ⟨k', List.mem_filter.2 ⟨hk', ?_⟩, hh'⟩
      simp only [ne_eq, decide_not, Bool.not_eq_true', decide_eq_false_iff_not]
      rintro rfl
      rw [hh'] at h'
      simp at h'
  · rintro ⟨k, hk, ks, h1, h2, h3⟩
    obtain ⟨g1, g2, g3⟩ := mem_around.1 hk
    refine ⟨k :: ks, by simp; omega, fun k' hk' => ?_, fun i' j' h' => ?_⟩
    · rcases List.mem_cons.1 hk' with rfl | hk'
      · exact ⟨g2, g1⟩
      · exact h2 k' hk'
    · cases hh : hasC L k i' j' with
      | true => exact ⟨k, by simp, hh⟩
      | false =>
        obtain ⟨k', hk', hh'⟩ := h3 i' j' (by rw [inO_step hL ho, h', hh]; rfl)
        exact ⟨k', by simp [hk'], hh'⟩
/-- A rectangle is taken, or left for good. -/
theorem cov_take {o : List Nat} {b k : Nat} (ho : Wds o) (h : cov L o (b + 1) k) : cov L (withoutM o (L.getD k (0, 0))) b (k + 1) ∨ cov L o (b + 1) (k + 1) := by
  obtain ⟨ks, h1, h2, h3⟩ := h
  by_cases hk : k ∈ ks
  · refine .inl ⟨ks.filter (· ≠ k), ?_, fun k' hk' => ?_, fun i j h' => ?_⟩
    · have : (ks.filter (· ≠ k)).length < ks.length := by
        rw [← List.countP_eq_length_filter]
        refine Nat.lt_of_le_of_ne List.countP_le_length fun he => ?_
        have := List.countP_eq_length.1 he k hk
        simp at this
      omega
    · obtain ⟨g1, g2⟩ := List.mem_filter.1 hk'
      have := h2 k' g1
      have : k' ≠ k := by simpa using g2
      omega
    · rw [inO_step hL ho, Bool.and_eq_true, Bool.not_eq_true'] at h'
      obtain ⟨k', hk', hh'⟩ := h3 i j h'.1
      refine ⟨k', List.mem_filter.2 ⟨hk', ?_⟩, hh'⟩
      simp only [ne_eq, decide_not, Bool.not_eq_true', decide_eq_false_iff_not]
      rintro rfl
      rw [hh'] at h'
      simp at h'
  · refine .inr ⟨ks, h1, fun k' hk' => ?_, h3⟩
    have := h2 k' hk'
    have : k' ≠ k := fun e => hk (e ▸ hk')
    omega
end
theorem cov_zero {L : List (Nat × Nat)} {o : List Nat} {fr : Nat} (ho : Wds o) : cov L o 0 fr ↔ sizeM o = 0 := by
  rw [sizeM_zero ho]
  constructor
  · rintro ⟨ks, h1, _, h3⟩ i j
    obtain rfl : ks = [] := List.length_eq_zero_iff.1 (by omega)
    cases h : inO o i j with
    | false => rfl
    | true => obtain ⟨_, hk, _⟩ := h3 i j h; cases hk
  · intro h
    exact ⟨[], by simp, by simp, fun i j hij => by rw [h] at hij; cases hij⟩
theorem cov_done {L : List (Nat × Nat)} {o : List Nat} {b fr : Nat} (ho : Wds o) (h : sizeM o = 0) : cov L o b fr := by
  obtain ⟨ks, h1, h2, h3⟩ := (cov_zero (L := L) (fr := fr) ho).2 h
  exact ⟨ks, by omega, h2, h3⟩
theorem cov_end {L : List (Nat × Nat)} {o : List Nat} {b : Nat} (ho : Wds o) (h : cov L o b L.length) : sizeM o = 0 := by
  obtain ⟨ks, h1, h2, h3⟩ := h
  rw [sizeM_zero ho]
  intro i j
  cases hh : inO o i j with
  | false => rfl
  | true => obtain ⟨k, hk, _⟩ := h3 i j hh; have := h2 k hk; omega
/-- How many nodes at most: of a search, of a proof. -/
def nodT : Nat → Nat
  | 0 => 1
  | b + 1 => 9 + 8 * nodT b
def nodG : Nat → Nat
  | 0 => 1
  | b + 1 => 1 + 8 * nodG b
theorem nodT_pos (b : Nat) : 1 ≤ nodT b := by cases b <;> simp [nodT] <;> omega
theorem nodT_le {a b : Nat} (h : a ≤ b) : nodT a ≤ nodT b := by
  induction h with
  | refl => exact Nat.le_refl _
  | step _ ih => simp only [nodT]; omega
/-- Few rectangles lie around a cell; where there are many, the last one covers all such cells. -/
structure Few (L : List (Nat × Nat)) (big : Nat → Nat → Prop) : Prop where
  lt : ∀ p ∈ L, p.2 < 18446744073709551616
  all16 : ∀ i j fr, (aroundM L i j fr).length ≤ 16
  many : ∀ i j fr, 8 < (aroundM L i j fr).length → big i j
  last : ∀ i j, big i j → L ≠ [] → hasC L (L.length - 1) i j = true
section
variable {L : List (Nat × Nat)} {big : Nat → Nat → Prop} (F : Few L big)
include F
/-- If even the cell with the fewest rectangles around it has many, one rectangle covers all. -/
theorem cov_last {o : List Nat} {i j fr : Nat} (hmin : ∀ i' j', inO o i' j' = true → (aroundM L i j fr).length ≤ (aroundM L i' j' fr).length) (h8 : 8 < (aroundM L i j fr).length) (b : Nat) (o' : List Nat) (hsub : ∀ i j, inO o' i j = true → inO o i j = true) : cov L o' (b + 1) fr := by
  have hne : aroundM L i j fr ≠ [] := fun e => by rw [e] at h8; simp at h8
  obtain ⟨k, hk⟩ := List.exists_mem_of_ne_nil _ hne
  obtain ⟨g1, g2, _⟩ := mem_around.1 hk
  refine ⟨[L.length - 1], by simp, fun k' hk' => ?_, fun i' j' h' => ⟨L.length - 1, by simp, ?_⟩⟩
  · simp at hk'; omega
  · have h1 := hmin i' j' (hsub _ _ h')
    exact F.last i' j' (F.many i' j' fr (by omega)) (fun e => by rw [e] at g1; simp at g1)
theorem branch_count {o : List Nat} {i j fr b q : Nat} (ho : Wds o) (hmin : ∀ i' j', inO o i' j' = true → (aroundM L i j fr).length ≤ (aroundM L i' j' fr).length) (hq : q ≤ (aroundM L i j fr).length) (hno : ∀ k ∈ (aroundM L i j fr).take (q - 1), ¬ cov L (withoutM o (L.getD k (0, 0))) b fr) : q * nodT b ≤ 8 + 8 * nodT b := by
  rcases Nat.lt_or_ge 8 (aroundM L i j fr).length with h8 | h8
  · cases b with
    | zero =>
      have := F.all16 i j fr
      simp only [nodT]
      omega
    | succ b =>
      have : q ≤ 1 := by
        rcases Nat.lt_or_ge 1 q with h | h
        · exfalso
          have hm : (aroundM L i j fr)[0]'(by omega) ∈ (aroundM L i j fr).take (q - 1) := by
            rw [List.mem_take_iff_getElem]
            exact ⟨0, by omega, rfl⟩
          refine hno _ hm (cov_last F hmin h8 b _ fun i' j' h' => ?_)
          rw [inO_step F.lt ho, Bool.and_eq_true] at h'
          exact h'.1
        · exact h
      have h2 := Nat.mul_le_mul_right (nodT (b + 1)) this
      omega
  · have : q * nodT b ≤ 8 * nodT b := Nat.mul_le_mul_right _ (by omega)
    omega
theorem grow_count {o : List Nat} {i j b : Nat} (hmin : ∀ i' j', inO o i' j' = true → (aroundM L i j 0).length ≤ (aroundM L i' j' 0).length) (hno : ¬ cov L o (b + 1) 0) : (aroundM L i j 0).length ≤ 8 := by
  rcases Nat.lt_or_ge 8 (aroundM L i j 0).length with h8 | h8
  · exact absurd (cov_last F hmin h8 b o fun _ _ h => h) hno
  · exact h8
end
end Go.Proofs.YtmfiencoefbjfaaGreatDoor
namespace Go.Proofs.YtmfiencoefbjfaaGreatDoor
open Go.RowKit
abbrev PMap := Nat → Option Obj
def PMap.le (X Y : PMap) : Prop := ∀ k o, X k = some o → Y k = some o
theorem PMap.le_refl (X : PMap) : X.le X := fun _ _ h => h
theorem PMap.le.trans' {X Y Z : PMap} (h : X.le Y) (h' : Y.le Z) : X.le Z := fun k o hk => h' k o (h k o hk)
theorem PMap.le_trans {X Y Z : PMap} (h : X.le Y) (h' : Y.le Z) : X.le Z := fun k o hk => h' k o (h k o hk)
def PIn (X : PMap) (W : World) : Prop := ∀ k o, X k = some o → W.heap[k]? = some o
theorem PIn.lt {X : PMap} {W : World} (h : PIn X W) {k : Nat} {o : Obj} (hk : X k = some o) : k < W.heap.size := by
  have := h k o hk
  rcases Nat.lt_or_ge k W.heap.size with h1 | h1
  · exact h1
  · rw [Array.getElem?_eq_none h1] at this; cases this
theorem PIn.fresh {X : PMap} {W : World} (h : PIn X W) : X W.heap.size = none := by
  cases hx : X W.heap.size with
  | none => rfl
  | some o => exact absurd (h.lt hx) (Nat.lt_irrefl _)

/-- A block of the call's own: its first cells are known. -/
structure Ow where
  b : Nat
  cs : List Value
  ty : TypeId
  sz : Nat
abbrev Own := List Ow
def Ow.In (p : Ow) (W : World) : Prop := ∃ rest : List Value, W.heap[p.b]? = some (.cells (p.cs ++ rest).toArray p.ty (0, 0)) ∧ p.cs.length + rest.length = p.sz
theorem Ow.In.lt {p : Ow} {W : World} (h : p.In W) : p.b < W.heap.size := by
  obtain ⟨r, h, _⟩ := h
  rcases Nat.lt_or_ge p.b W.heap.size with h1 | h1
  · exact h1
  · rw [Array.getElem?_eq_none h1] at h; cases h
theorem Ow.In.cell {p : Ow} {W : World} (h : p.In W) {i : Nat} {v : Value} (hi : p.cs[i]? = some v) : W.cell? ⟨p.b, i, none⟩ = some v := by
  obtain ⟨r, h, _⟩ := h
  simp only [World.cell?, h]
  have hl : i < p.cs.length := by
    rcases Nat.lt_or_ge i p.cs.length with h1 | h1
    · exact h1
    · rw [List.getElem?_eq_none h1] at hi; cases hi
  simp [List.getElem?_append_left hl, hi]
theorem Ow.In.frozen {p : Ow} {W : World} (h : p.In W) (i : Nat) : W.frozen? ⟨p.b, i, none⟩ = false := by
  obtain ⟨r, h, _⟩ := h
  simp [World.frozen?, h]

/-- What a world keeps of another: no block that was there has changed. -/
structure Grow (W W' : World) : Prop where
  size : W.heap.size ≤ W'.heap.size
  same : ∀ k, k < W.heap.size → W'.heap[k]? = W.heap[k]?
theorem Grow.refl (W : World) : Grow W W := ⟨Nat.le_refl _, fun _ _ => rfl⟩
theorem Grow.trans {A B C : World} (h : Grow A B) (h' : Grow B C) : Grow A C := ⟨Nat.le_trans h.size h'.size, fun k hk => (h'.same k (Nat.lt_of_lt_of_le hk h.size)).trans (h.same k hk)⟩
theorem Grow.of_below {W W' : World} (h : Below W.heap.size W W') : Grow W W' := ⟨h.size, h.block⟩
theorem Grow.alloc (W : World) (o : Obj) : Grow W (W.alloc o) := ⟨by simp, fun k hk => Below.heap_alloc W o k hk⟩

theorem Grow.pin {X : PMap} {W W' : World} (h : Grow W W') (hp : PIn X W) : PIn X W' := fun k o hk => (h.same k (hp.lt hk)).trans (hp k o hk)
theorem Grow.ow {p : Ow} {W W' : World} (h : Grow W W') (hp : p.In W) : p.In W' := by
  have hl := hp.lt
  obtain ⟨r, hr, hz⟩ := hp
  exact ⟨r, (h.same _ hl).trans hr, hz⟩

/-- What an operation that only reads may lean on. -/
structure Stab (own : Own) (X : PMap) (W : World) : Prop where
  own : ∀ p ∈ own, p.In W
  pers : PIn X W
theorem Stab.grow {own : Own} {X : PMap} {W W' : World} (h : Stab own X W) (hg : Grow W W') : Stab own X W' := ⟨fun p hp => hg.ow (h.own p hp), hg.pin h.pers⟩

/-- The symbolic state of memory; w0: the world in which the call began. -/
structure SatC (w0 : World) (X0 : PMap) (own : Own) (X : PMap) (W : World) : Prop where
  below : Below w0.heap.size w0 W
  old : ∀ k, k < w0.heap.size → X k = X0 k
  stab : Stab own X W
  new : ∀ p ∈ own, w0.heap.size ≤ p.b
  apart : ∀ p ∈ own, X p.b = none
  nodup : own.Pairwise fun p q => p.b ≠ q.b

theorem SatC.start (w : World) {X : PMap} (h : PIn X w) : SatC w X [] X w := ⟨Below.refl _ _, (fun _ _ => rfl), ⟨(fun _ h => by cases h), h⟩, (fun _ h => by cases h), (fun _ h => by cases h), .nil⟩
theorem below_draw {B : Nat} {a w : World} (h : Below B a w) (n : Nat) : Below B a { w with drawn := n } := ⟨h.os, h.tape, h.output, h.size, h.block⟩
theorem SatC.draw {w0 : World} {X0 : PMap} {own : Own} {X : PMap} {W : World} (h : SatC w0 X0 own X W) (n : Nat) : SatC w0 X0 own X { W with drawn := n } :=
  ⟨below_draw h.below n, h.old, ⟨fun p hp => h.stab.own p hp, h.stab.pers⟩, h.new, h.apart, h.nodup⟩
/-- A new block of cells. -/
theorem SatC.alloc {w0 : World} {X0 : PMap} {own : Own} {X : PMap} {W : World} (h : SatC w0 X0 own X W) (cs : List Value) (ty : TypeId) :
    SatC w0 X0 (⟨W.heap.size, cs, ty, cs.length⟩ :: own) X (W.alloc (.cells cs.toArray ty)) where
  below := h.below.alloc h.below.size _
  old := h.old
  stab := by
    have hs := h.stab.grow (Grow.alloc W (.cells cs.toArray ty))
    refine ⟨fun p hp => ?_, hs.pers⟩
    rcases List.mem_cons.1 hp with rfl | hp
    · exact ⟨[], by rw [List.append_nil]; exact heap_alloc_new W _, rfl⟩
    · exact hs.own p hp
  new := fun p hp => by
    rcases List.mem_cons.1 hp with rfl | hp
    · exact h.below.size
    · exact h.new p hp
  apart := fun p hp => by
    rcases List.mem_cons.1 hp with rfl | hp
    · exact h.stab.pers.fresh
    · exact h.apart p hp
  nodup := .cons (fun q hq => Ne.symm (Nat.ne_of_lt (h.stab.own q hq).lt)) h.nodup
/-- Behind a call that changes nothing that was there. -/
theorem SatC.call {w0 : World} {X0 : PMap} {own : Own} {X X' : PMap} {W W' : World} (h : SatC w0 X0 own X W) (hb : Below W.heap.size W W') (hX : PIn X' W') (hn : ∀ k, k < W.heap.size → X' k = X k) : SatC w0 X0 own X' W' where
  below := h.below.trans (hb.mono h.below.size)
  old := fun k hk => (hn k (Nat.lt_of_lt_of_le hk h.below.size)).trans (h.old k hk)
  stab := ⟨fun p hp => (Grow.of_below hb).ow (h.stab.own p hp), hX⟩
  new := h.new
  apart := fun p hp => (hn _ (h.stab.own p hp).lt).trans (h.apart p hp)
  nodup := h.nodup
/-- One cell of an own block is written. -/
theorem Ow.In.set {p : Ow} {W : World} (h : p.In W) {i : Nat} (hi : i < p.cs.length) (v : Value) : Ow.In ⟨p.b, p.cs.set i v, p.ty, p.sz⟩ (W.setCell ⟨p.b, i, none⟩ v) := by
  obtain ⟨r, h, hz⟩ := h
  refine ⟨r, ?_, by simpa using hz⟩
  simp [World.setCell, Array.getElem?_modify, h, hi]
theorem Ow.In.far {p : Ow} {W : World} (h : p.In W) {a : Addr} (ha : p.b ≠ a.block) (v : Value) : p.In (W.setCell a v) := by
  obtain ⟨r, h, hz⟩ := h
  exact ⟨r, (Below.heap_setCell W a v p.b ha).trans h, hz⟩
/-- Own block number j replaced. -/
theorem SatC.put {w0 : World} {X0 : PMap} {own : Own} {X : PMap} {W : World} (h : SatC w0 X0 own X W) {j : Nat} {b : Nat} {cs : List Value} {ty : TypeId} {sz : Nat} (hj : own[j]? = some ⟨b, cs, ty, sz⟩) {i : Nat} (hi : i < cs.length) (v : Value) :
    SatC w0 X0 (own.set j ⟨b, cs.set i v, ty, sz⟩) X (W.setCell ⟨b, i, none⟩ v) := by
  have hm : (⟨b, cs, ty, sz⟩ : Ow) ∈ own := List.mem_of_getElem? hj
  have hjl : j < own.length := by
    rcases Nat.lt_or_ge j own.length with h1 | h1
    · exact h1
    · rw [List.getElem?_eq_none h1] at hj; cases hj
  have hjv : own[j] = ⟨b, cs, ty, sz⟩ := by rw [List.getElem?_eq_getElem hjl] at hj; exact Option.some.inj hj
  have hb0 := h.new _ hm
  have hother : ∀ k (hk : k < own.length), k ≠ j → own[k].b ≠ b := fun k hk hne => by
    have hp := List.pairwise_iff_getElem.1 h.nodup
    rcases Nat.lt_or_gt_of_ne hne with hlt | hgt
    · have := hp k j hk hjl hlt; rw [hjv] at this; exact this
    · have := hp j k hjl hk hgt; rw [hjv] at this; exact fun e => this e.symm
  have hget : ∀ q ∈ own.set j ⟨b, cs.set i v, ty, sz⟩, q = ⟨b, cs.set i v, ty, sz⟩ ∨ (q ∈ own ∧ q.b ≠ b) := fun q hq => by
    obtain ⟨k, hk, rfl⟩ := List.getElem_of_mem hq
    have hk' : k < own.length := by simpa using hk
    by_cases e : j = k
    · subst e; left; simp
    · right
      rw [List.getElem_set_ne e]
      exact ⟨List.getElem_mem hk', hother k hk' (Ne.symm e)⟩
  refine ⟨h.below.setCell (p := ⟨b, i, none⟩) hb0 v, h.old, ⟨fun q hq => ?_, fun k o hk => ?_⟩, fun q hq => ?_, fun q hq => ?_, ?_⟩
  · rcases hget q hq with rfl | ⟨hq, hne⟩
    · exact (h.stab.own _ hm).set hi v
    · exact (h.stab.own q hq).far hne v
  · have hkb : k ≠ b := fun e => by subst e; rw [h.apart _ hm] at hk; cases hk
    exact (Below.heap_setCell W ⟨b, i, none⟩ v k hkb).trans (h.stab.pers k o hk)
  · rcases hget q hq with rfl | ⟨hq, _⟩
    · exact hb0
    · exact h.new q hq
  · rcases hget q hq with rfl | ⟨hq, _⟩
    · exact h.apart ⟨b, cs, ty, sz⟩ hm
    · exact h.apart q hq
  · refine List.pairwise_iff_getElem.2 fun x y hx hy hxy => ?_
    have hx' : x < own.length := by simpa using hx
    have hy' : y < own.length := by simpa using hy
    have hp := List.pairwise_iff_getElem.1 h.nodup x y hx' hy' hxy
    by_cases ex : j = x
    · subst ex
      rw [List.getElem_set_self, List.getElem_set_ne (by omega)]
      exact fun e => hother y hy' (by omega) e.symm
    · by_cases ey : j = y
      · subst ey
        rw [List.getElem_set_self, List.getElem_set_ne (by omega)]
        exact hother x hx' (by omega)
      · rw [List.getElem_set_ne ex, List.getElem_set_ne ey]; exact hp

/-- Finding an own block by its number. -/
inductive AtO : Own → Nat → List Value → TypeId → Nat → Nat → Prop
  | here {l : Own} {b : Nat} {cs : List Value} {ty : TypeId} {sz : Nat} : AtO (⟨b, cs, ty, sz⟩ :: l) b cs ty sz 0
  | there {l : Own} {o : Ow} {b : Nat} {cs : List Value} {ty : TypeId} {sz : Nat} {j : Nat} : AtO l b cs ty sz j → AtO (o :: l) b cs ty sz (j + 1)
theorem AtO.get {l : Own} {b : Nat} {cs : List Value} {ty : TypeId} {sz : Nat} {j : Nat} (h : AtO l b cs ty sz j) : l[j]? = some ⟨b, cs, ty, sz⟩ := by
  induction h with
  | here => rfl
  | there _ ih => simpa using ih
theorem AtO.mem {l : Own} {b : Nat} {cs : List Value} {ty : TypeId} {sz : Nat} {j : Nat} (h : AtO l b cs ty sz j) : (⟨b, cs, ty, sz⟩ : Ow) ∈ l := List.mem_of_getElem? h.get

/-- Cells from i on replaced. -/
def csets : List Value → Nat → List Value → List Value
  | cs, _, [] => cs
  | cs, i, v :: vs => csets (cs.set i v) (i + 1) vs
theorem SatC.puts {w0 : World} {X0 : PMap} {X : PMap} {j : Nat} {b : Nat} {ty : TypeId} {sz : Nat} : ∀ (vs : List Value) (own : Own) (cs : List Value) (i : Nat) (W : World), SatC w0 X0 own X W → own[j]? = some ⟨b, cs, ty, sz⟩ → i + vs.length ≤ cs.length →
    SatC w0 X0 (own.set j ⟨b, csets cs i vs, ty, sz⟩) X (W.setCells b i vs)
  | [], own, cs, i, W, h, hj, _ => by
    have : own.set j ⟨b, cs, ty, sz⟩ = own := by
      apply List.ext_getElem?
      intro k
      by_cases e : j = k
      · subst e
        have hjl : j < own.length := by
          rcases Nat.lt_or_ge j own.length with h1 | h1
          · exact h1
          · rw [List.getElem?_eq_none h1] at hj; cases hj
        rw [List.getElem?_set_self hjl, hj]
      · rw [List.getElem?_set_ne e]
    simpa [csets, World.setCells, this] using h
  | v :: vs, own, cs, i, W, h, hj, hl => by
    simp only [List.length_cons] at hl
    have hjl : j < own.length := by
      rcases Nat.lt_or_ge j own.length with h1 | h1
      · exact h1
      · rw [List.getElem?_eq_none h1] at hj; cases hj
    have h1 := h.put hj (i := i) (by omega) v
    have h2 := SatC.puts (j := j) vs _ (cs.set i v) (i + 1) _ h1 (List.getElem?_set_self hjl) (by simp; omega)
    simpa [csets, World.setCells] using h2

/-- The world in which the call began; blocks that are held fast (the records of ranges over functions). -/
structure Base where
  w : World
  res : List (Nat × Obj)
abbrev Base.heap (b : Base) : Array Obj := b.w.heap
def ResOk (b : Base) (own : Own) (X : PMap) (W : World) : Prop := ∀ p ∈ b.res, W.heap[p.1]? = some p.2 ∧ X p.1 = none ∧ (∀ q ∈ own, q.b ≠ p.1) ∧ b.w.heap.size ≤ p.1
structure Sat (w0 : Base) (X0 : PMap) (own : Own) (X : PMap) (W : World) : Prop extends SatC w0.w X0 own X W where
  res : ResOk w0 own X W
theorem get_lt {W : World} {k : Nat} {o : Obj} (h : W.heap[k]? = some o) : k < W.heap.size := (Array.getElem?_eq_some_iff.1 h).1
theorem Sat.start (w : World) {X : PMap} (h : PIn X w) : Sat ⟨w, []⟩ X [] X w := ⟨SatC.start w h, fun _ h => by cases h⟩
theorem Sat.draw {w0 : Base} {X0 : PMap} {own : Own} {X : PMap} {W : World} (h : Sat w0 X0 own X W) (n : Nat) : Sat w0 X0 own X { W with drawn := n } := ⟨h.toSatC.draw n, fun p hp => h.res p hp⟩
theorem Sat.alloc {w0 : Base} {X0 : PMap} {own : Own} {X : PMap} {W : World} (h : Sat w0 X0 own X W) (cs : List Value) (ty : TypeId) :
    Sat w0 X0 (⟨W.heap.size, cs, ty, cs.length⟩ :: own) X (W.alloc (.cells cs.toArray ty)) :=
  ⟨h.toSatC.alloc cs ty, fun p hp => by
    obtain ⟨h1, h2, h3, h4⟩ := h.res p hp
    refine ⟨((Grow.alloc W _).same _ (get_lt h1)).trans h1, h2, fun q hq => ?_, h4⟩
    rcases List.mem_cons.1 hq with rfl | hq
    · exact Ne.symm (Nat.ne_of_lt (get_lt h1))
    · exact h3 q hq⟩
theorem Sat.call {w0 : Base} {X0 : PMap} {own : Own} {X X' : PMap} {W W' : World} (h : Sat w0 X0 own X W) (hb : Below W.heap.size W W') (hX : PIn X' W') (hn : ∀ k, k < W.heap.size → X' k = X k) : Sat w0 X0 own X' W' :=
  ⟨h.toSatC.call hb hX hn, fun p hp => by
    obtain ⟨h1, h2, h3, h4⟩ := h.res p hp
    exact ⟨((Grow.of_below hb).same _ (get_lt h1)).trans h1, (hn _ (get_lt h1)).trans h2, h3, h4⟩⟩
theorem set_b {own : Own} {j : Nat} {o q : Ow} (hq : q ∈ own.set j o) : q = o ∨ q ∈ own := by
  obtain ⟨k, hk, rfl⟩ := List.getElem_of_mem hq
  have hk' : k < own.length := by simpa using hk
  by_cases e : j = k
  · subst e; left; simp
  · right; rw [List.getElem_set_ne e]; exact List.getElem_mem hk'
theorem setCells_far : ∀ (vs : List Value) (W : World) (b i k : Nat), k ≠ b → (W.setCells b i vs).heap[k]? = W.heap[k]?
  | [], _, _, _, _, _ => rfl
  | v :: vs, W, b, i, k, h => by
    simp only [World.setCells]
    rw [setCells_far vs _ b (i + 1) k h]
    exact Below.heap_setCell W ⟨b, i, none⟩ v k h
theorem Sat.puts {w0 : Base} {X0 : PMap} {X : PMap} {j : Nat} {b : Nat} {ty : TypeId} {sz : Nat} (vs : List Value) (own : Own) (cs : List Value) (i : Nat) (W : World) (h : Sat w0 X0 own X W) (hj : own[j]? = some ⟨b, cs, ty, sz⟩) (hl : i + vs.length ≤ cs.length) :
    Sat w0 X0 (own.set j ⟨b, csets cs i vs, ty, sz⟩) X (W.setCells b i vs) :=
  ⟨SatC.puts vs own cs i W h.toSatC hj hl, fun p hp => by
    obtain ⟨h1, h2, h3, h4⟩ := h.res p hp
    have hb : b ≠ p.1 := h3 _ (List.mem_of_getElem? hj)
    refine ⟨(setCells_far vs W b i p.1 (Ne.symm hb)).trans h1, h2, fun q hq => ?_, h4⟩
    rcases set_b hq with rfl | hq
    · exact hb
    · exact h3 q hq⟩

/-- Own blocks are forgotten. -/
theorem Sat.sub {w0 : Base} {X0 : PMap} {own own' : Own} {X : PMap} {W : World} (h : Sat w0 X0 own X W) (hs : own'.Sublist own) : Sat w0 X0 own' X W :=
  ⟨⟨h.below, h.old, ⟨fun p hp => h.stab.own p (hs.subset hp), h.stab.pers⟩, fun p hp => h.new p (hs.subset hp), fun p hp => h.apart p (hs.subset hp), h.nodup.sublist hs⟩, fun p hp => by
    obtain ⟨h1, h2, h3, h4⟩ := h.res p hp
    exact ⟨h1, h2, fun q hq => h3 q (hs.subset hq), h4⟩⟩
/-- The order of own blocks does not matter. -/
theorem Sat.perm {w0 : Base} {X0 : PMap} {own own' : Own} {X : PMap} {W : World} (h : Sat w0 X0 own X W) (hs : own.Perm own') : Sat w0 X0 own' X W :=
  ⟨⟨h.below, h.old, ⟨fun p hp => h.stab.own p (hs.mem_iff.2 hp), h.stab.pers⟩, fun p hp => h.new p (hs.mem_iff.2 hp), fun p hp => h.apart p (hs.mem_iff.2 hp), hs.pairwise h.nodup fun {_ _} hxy => Ne.symm hxy⟩, fun p hp => by
    obtain ⟨h1, h2, h3, h4⟩ := h.res p hp
    exact ⟨h1, h2, fun q hq => h3 q (hs.mem_iff.2 hq), h4⟩⟩
/-- Less is known of the block that was laid last. -/
theorem Sat.forget {w0 : Base} {X0 : PMap} {own : Own} {X : PMap} {W : World} {b sz : Nat} {cs ds : List Value} {ty : TypeId} (h : Sat w0 X0 (⟨b, cs ++ ds, ty, sz⟩ :: own) X W) : Sat w0 X0 (⟨b, cs, ty, sz⟩ :: own) X W := by
  refine ⟨⟨h.below, h.old, ⟨fun p hp => ?_, h.stab.pers⟩, fun p hp => ?_, fun p hp => ?_, ?_⟩, fun p hp => ?_⟩
  · rcases List.mem_cons.1 hp with rfl | hp
    · obtain ⟨r, h1, h2⟩ := h.stab.own ⟨b, cs ++ ds, ty, sz⟩ (by simp)
      exact ⟨ds ++ r, by rw [← List.append_assoc]; exact h1, by simp at h2 ⊢; omega⟩
    · exact h.stab.own p (by simp [hp])
  · rcases List.mem_cons.1 hp with rfl | hp
    · exact h.new ⟨b, cs ++ ds, ty, sz⟩ (by simp)
    · exact h.new p (by simp [hp])
  · rcases List.mem_cons.1 hp with rfl | hp
    · exact h.apart ⟨b, cs ++ ds, ty, sz⟩ (by simp)
    · exact h.apart p (by simp [hp])
  · have := h.nodup
    rw [List.pairwise_cons] at this ⊢
    exact this
  · obtain ⟨h1, h2, h3, h4⟩ := h.res p hp
    refine ⟨h1, h2, fun q hq => ?_, h4⟩
    rcases List.mem_cons.1 hq with rfl | hq
    · exact h3 ⟨b, cs ++ ds, ty, sz⟩ (by simp)
    · exact h3 q (by simp [hq])
/-- How many slots; the marks that wait at the end. -/
structure NM where
  size : Nat
  marks : List Deferred
abbrev Env := List (Nat × Value)
def eget : Env → Nat → Option Value
  | [], _ => none
  | (t, v) :: e, s => bif Nat.beq t s then some v else eget e s
def eev (env : Env) : Operand → Option Value
  | .tmp t => eget env t
  | .const v => some v
  | .global g => some (.pointer (some ⟨g, 0, none⟩))
  | .func f => some (.func (.func f) #[] #[])
structure EOk (n : NM) (env : Env) (a : Act) : Prop where
  defers : a.defers = n.marks
  size : a.tmps.size = n.size
  get : ∀ t v, eget env t = some v → a.tmps.getD t undef = v
theorem EOk.eval {n : NM} {env : Env} {a : Act} (h : EOk n env a) {x : Operand} {v : Value} (hx : eev env x = some v) : a.eval x = v := by
  cases x with
  | tmp t => exact h.get t v hx
  | const u => simpa [eev, Act.eval] using hx
  | global g => simpa [eev, Act.eval] using hx
  | func f => simpa [eev, Act.eval] using hx
theorem EOk.put {n : NM} {env : Env} {a : Act} (h : EOk n env a) {d : Nat} (hd : Nat.blt d n.size = true) (v : Value) : EOk n ((d, v) :: env) (a.put (some d) v) := by
  have hd' : d < n.size := Nat.le_of_ble_eq_true hd
  refine ⟨h.defers, by simp [Act.put, h.size], fun t u ht => ?_⟩
  simp only [eget] at ht
  cases hb : Nat.beq d t with
  | true =>
    have : d = t := Nat.eq_of_beq_eq_true hb
    subst this
    have hv : v = u := by simpa using ht
    subst hv
    simp [Act.put, h.size, hd']
  | false =>
    have hne : d ≠ t := Nat.ne_of_beq_eq_false hb
    rw [hb] at ht
    rw [← h.get t u ht]
    simp [Act.put, Array.getElem?_setIfInBounds_ne hne]
/-- Fewer slots are known. -/
theorem EOk.weaken {n : NM} {env env' : Env} {a : Act} (h : EOk n env a) (hw : ∀ t v, eget env' t = some v → eget env t = some v) : EOk n env' a := ⟨h.defers, h.size, fun t v ht => h.get t v (hw t v ht)⟩
end Go.Proofs.YtmfiencoefbjfaaGreatDoor
namespace Go.Proofs.YtmfiencoefbjfaaGreatDoor
open Go.RowKit
section
variable {P : Program} {n : NM} {w0 : Base} {X0 X : PMap} {own : Own} {env : Env} {ops : Array Oper} {Q : Exit → Act → World → Prop} {ro : Option Nat}
/-- The wide fence, outside of a round (none) or in one. -/
abbrev FR (ro : Option Nat) : Fence := { fn := fun _ => True, depth := none, alive := false, round := ro }
abbrev DEP : Nat := 9
theorem fr_calls {ro : Option Nat} {m : Nat} {P : Program} {f : FuncId} {args : Array Value} {w : World} {R : Ending → World → Prop} : CallsIn (FR ro) m P f args w R ↔ Calls P f args w R := callsIn_wide (n := m)

/-- The operation only reads, and yields v. -/
def OpY (P : Program) (n : NM) (env : Env) (own : Own) (X : PMap) (o : Op) (v : Value) : Prop :=
  ∀ a W (oper : Oper), oper.op = o → EOk n env a → Stab own X W → (execOp a.eval oper).run P W = .ok (.value v) W
/-- The operation does what k says; g: it changes nothing that was there. -/
def OpX (P : Program) (n : NM) (w0 : Base) (X0 : PMap) (env : Env) (own : Own) (X : PMap) (o : Op) (g : Bool) (k : Value → Own → PMap → Prop) : Prop :=
  ∀ a W (oper : Oper) K Q ro, oper.op = o → EOk n env a → Sat w0 X0 own X W →
    (∀ v own' X' W', k v own' X' → Sat w0 X0 own' X' W' → (g = true → Grow W W') → K (a.put oper.dst v) W') → oper.wpIn (FR ro) DEP P a W K Q
theorem wp_value {oper : Oper} {a : Act} {W W' : World} {K : Act → World → Prop} {Q : Exit → Act → World → Prop} {ro : Option Nat} {v : Value} (hnd : ∀ c, oper.op ≠ .defer c) (hr : (execOp a.eval oper).run P W = .ok (.value v) W') (h : K (a.put oper.dst v) W') : oper.wpIn (FR ro) DEP P a W K Q := by
  refine ⟨fun _ _ => trivial, ?_⟩
  rw [Oper.semAt_eq _ _ _ hnd, hr]
  exact h
theorem wp_skipped {oper : Oper} {a : Act} {W W' : World} {K : Act → World → Prop} {Q : Exit → Act → World → Prop} {ro : Option Nat} (hnd : ∀ c, oper.op ≠ .defer c) (hr : (execOp a.eval oper).run P W = .ok .skip W') (h : K (a.put oper.dst undef) W') : oper.wpIn (FR ro) DEP P a W K Q := by
  refine ⟨fun _ _ => trivial, ?_⟩
  rw [Oper.semAt_eq _ _ _ hnd, hr]
  exact h
theorem wp_enters {oper : Oper} {a : Act} {W W' : World} {K : Act → World → Prop} {Q : Exit → Act → World → Prop} {ro : Option Nat} {f : FuncId} {args : Array Value} (hnd : ∀ c, oper.op ≠ .defer c) (hr : (execOp a.eval oper).run P W = .ok (.enter f args) W')
    (h : Calls P f args W' fun e w'' => ∃ v, e = .returned v ∧ K (a.put oper.dst v) w'') : oper.wpIn (FR ro) DEP P a W K Q := by
  refine ⟨fun _ _ => trivial, ?_⟩
  rw [Oper.semAt_eq _ _ _ hnd, hr]
  refine ⟨fun h => (by cases h), fr_calls.2 (h.mono fun e w'' hh => ?_)⟩
  obtain ⟨v, rfl, hk⟩ := hh
  exact hk

/-- Does the operation run? -/
def gwant (ops : Array Oper) (env : Env) : Option (Nat × Bool) → Option Bool
  | none => some true
  | some (j, want) =>
    match ((ops[j]?).bind (·.dst)).bind (eget env) with
    | some (.bool b) => some (bif want then b else !b)
    | some (.tuple _) => some false
    | _ => none
theorem gwant_spec {o : Oper} {a : Act} {b : Bool} (h : EOk n env a) (hg : gwant ops env o.guard = some b) : Region.wanted o (yielded ops a.tmps) = b := by
  unfold gwant at hg
  unfold Region.wanted
  cases hgd : o.guard with
  | none => rw [hgd] at hg; simpa using hg
  | some jw =>
    obtain ⟨j, want⟩ := jw
    rw [hgd] at hg
    simp only at hg ⊢
    cases hd : (ops[j]?).bind (·.dst) with
    | none => rw [hd] at hg; simp at hg
    | some t =>
      rw [hd] at hg
      simp only [Option.bind_some] at hg
      cases hv : eget env t with
      | none => rw [hv] at hg; simp at hg
      | some v =>
        rw [hv] at hg
        cases v with
        | bool c =>
          have hgt := h.get t _ hv
          have hy : yielded ops a.tmps j = some c := by
            unfold yielded
            rw [hd]
            simp only [Option.bind_some]
            have : a.tmps[t]? = some (.bool c) := by
              rcases Nat.lt_or_ge t a.tmps.size with hlt | hge
              · rw [Array.getElem?_eq_getElem hlt]
                simpa [Array.getD, hlt] using hgt
              · simp [Array.getD, Nat.not_lt.2 hge, undef] at hgt
            rw [this]
          rw [hy]
          simp only [Option.some.injEq] at hg
          subst hg
          cases want <;> cases c <;> rfl
        | tuple xs =>
          have hgt := h.get t _ hv
          have hy : yielded ops a.tmps j = none := by
            unfold yielded
            rw [hd]
            simp only [Option.bind_some]
            rcases Nat.lt_or_ge t a.tmps.size with hlt | hge
            · rw [Array.getElem?_eq_getElem hlt]
              have : a.tmps[t] = .tuple xs := by simpa [Array.getD, hlt] using hgt
              rw [this]
            · rw [Array.getElem?_eq_none hge]
          rw [hy]
          simp only [Option.some.injEq] at hg
          subst hg
          rfl
        | _ => simp at hg

def eput (env : Env) : Option Tmp → Value → Env
  | some d, v => (d, v) :: env
  | none, _ => env
def dok (n : NM) : Option Tmp → Bool
  | some d => Nat.blt d n.size
  | none => true
def noDefer : Op → Bool
  | .defer _ => false
  | _ => true
theorem noDefer_spec {o : Op} (h : noDefer o = true) (c : Call) : o ≠ .defer c := by rintro rfl; cases h
theorem EOk.eput {a : Act} (h : EOk n env a) {d : Option Tmp} (hd : dok n d = true) (v : Value) : EOk n (eput env d v) (a.put d v) := by
  cases d with
  | none => exact h
  | some d => exact h.put hd v

def SL (ro : Option Nat) (P : Program) (n : NM) (w0 : Base) (X0 : PMap) (ops : Array Oper) (Q : Exit → Act → World → Prop) (l : List Oper) (env : Env) (own : Own) (X : PMap) : Prop :=
  ∀ a W, EOk n env a → Sat w0 X0 own X W → wpListIn (FR ro) DEP P ops Q l a W

theorem SL.y {l : List Oper} {d : Option Tmp} {op : Op} {ty : TypeId} {pos : String} {af : Array Edge} {g : Option (Nat × Bool)} {v : Value} (h : OpY P n env own X op v) (hg : gwant ops env g = some true) (hd : (dok n d && noDefer op) = true)
    (h' : SL ro P n w0 X0 ops Q l (eput env d v) own X) : SL ro P n w0 X0 ops Q (⟨d, op, ty, pos, af, g⟩ :: l) env own X := by
  intro a W ha hs
  unfold wpListIn
  rw [if_pos (gwant_spec ha hg)]
  simp only [Bool.and_eq_true] at hd
  exact wp_value (noDefer_spec hd.2) (h a W _ rfl ha hs.stab) (h' _ _ (ha.eput hd.1 v) hs)
theorem SL.skip {l : List Oper} {d : Option Tmp} {op : Op} {ty : TypeId} {pos : String} {af : Array Edge} {g : Option (Nat × Bool)} (hg : gwant ops env g = some false) (hd : dok n d = true)
    (h' : SL ro P n w0 X0 ops Q l (eput env d undef) own X) : SL ro P n w0 X0 ops Q (⟨d, op, ty, pos, af, g⟩ :: l) env own X := by
  intro a W ha hs
  unfold wpListIn
  rw [if_neg (by rw [gwant_spec ha hg]; simp)]
  exact ⟨fun _ _ => trivial, h' _ _ (ha.eput hd _) hs⟩
theorem SL.x {l : List Oper} {d : Option Tmp} {op : Op} {ty : TypeId} {pos : String} {af : Array Edge} {g : Option (Nat × Bool)} {k : Value → Own → PMap → Prop} {gr : Bool} (h : OpX P n w0 X0 env own X op gr k) (hg : gwant ops env g = some true) (hd : dok n d = true)
    (h' : ∀ v own' X', k v own' X' → SL ro P n w0 X0 ops Q l (eput env d v) own' X') : SL ro P n w0 X0 ops Q (⟨d, op, ty, pos, af, g⟩ :: l) env own X := by
  intro a W ha hs
  unfold wpListIn
  rw [if_pos (gwant_spec ha hg)]
  exact h a W _ _ _ _ rfl ha hs fun v own' X' W' hk hs' _ => h' v own' X' hk _ _ (ha.eput hd v) hs'
end
section
variable {P : Program} {ops : Array Oper} {Q : Exit → Act → World → Prop} {S : World → Prop} {nh : Nat} {ro : Option Nat}
theorem yields_wp {i : Nat} {o : Oper} {v : Value} {a : Act} (hnd : ∀ c, o.op ≠ .defer c) (hi : ops[i]? = some o) (hy : YieldsIf P ops S o v a) {K : Act → World → Prop} {w : World} (hS : S w) (h : K (a.put o.dst v) w) : wpOpIn (FR ro) DEP P ops Q i K a w := by
  unfold wpOpIn
  simp only [hi]
  rcases hy with ⟨hw, hv⟩ | ⟨hw, rfl⟩
  · simp only [hw, if_true]; exact wp_value hnd (hv w hS) h
  · simp only [hw, Bool.false_eq_true, if_false]; exact ⟨fun _ _ => trivial, h⟩
theorem wpOpIn_putIf {j : Nat} {oi oj : Oper} {v : Value} (hndj : ∀ c, oj.op ≠ .defer c) (hj : ops[j]? = some oj) (hap : oi.apart ops oj = true)
    (hsi : ∀ cs b, oi.op ≠ .select cs b) (hsj : ∀ cs b, oj.op ≠ .select cs b)
    (hQ : ∀ c a w, Q (.panic c) (a.put oi.dst v) w → Q (.panic c) a w) {K : Act → World → Prop} {a : Act} {w : World}
    (hy : YieldsIf P ops S oi v a) (h : wpOpIn (FR ro) DEP P ops Q j K (a.put oi.dst v) w) :
    wpOpIn (FR ro) DEP P ops Q j (fun a' w' => YieldsIf P ops S oi v a' ∧ K (a'.put oi.dst v) w') a w := by
  obtain ⟨h1, h2, h3⟩ := Oper.apart_spec hap
  have keep : ∀ (a : Act), YieldsIf P ops S oi v a → ∀ u, YieldsIf P ops S oi v (a.put oj.dst u) := fun a hy u =>
    hy.of_same (execOp_put oi hsi a oj.dst u h3) (wanted_put oi a oj.dst u h3)
  have keepD : ∀ d, YieldsIf P ops S oi v { a with defers := d :: a.defers } := fun d => hy.of_same rfl rfl
  unfold wpOpIn at *
  simp only [hj] at *
  rw [wanted_put oj a oi.dst v h1] at h
  split
  · rename_i hw
    simp only [hw, if_true] at h
    unfold Oper.wpIn at *
    refine ⟨fun _ _ => trivial, ?_⟩
    have h := h.2
    rw [Oper.semAt_eq _ _ _ hndj, execOp_put oj hsj a oi.dst v h1] at h
    rw [Oper.semAt_eq _ _ _ hndj]
    generalize (execOp a.eval oj).run P w = r at *
    cases r with
    | ok x w' =>
      cases x <;> simp only [Oper.uponIn] at h ⊢
      case value u => exact ⟨keep a hy u, by rw [← Act.put_comm a v u h2]; exact h⟩
      case skip => exact ⟨keep a hy _, by rw [← Act.put_comm a v undef h2]; exact h⟩
      case defer d =>
        refine ⟨keep _ (keepD d) _, ?_⟩
        rw [← Act.put_comm _ v undef h2, ← Act.put_defers]
        exact h
      case enter f args =>
        refine ⟨h.1, CallsIn.mono h.2 fun e w'' he => ?_⟩
        cases e with
        | returned u => exact ⟨keep a hy u, by rw [← Act.put_comm a v u h2]; exact he⟩
        | panicked c => exact hQ _ _ _ he
        | outgrown => exact he
      case row row args => exact ⟨h.1, RowsIn.mono h.2 fun u w'' he => ⟨keep a hy u, by rw [← Act.put_comm a v u h2]; exact he⟩⟩
      case round l f tmps assign body =>
        refine ⟨h.1, RoundIn.mono h.2 fun e w'' he => ?_⟩
        cases e with
        | returned u => exact ⟨keep a hy u, by rw [← Act.put_comm a v u h2]; exact he⟩
        | panicked c => exact hQ _ _ _ he
        | outgrown => exact he
    | halt x w' =>
      cases x <;> simp only [Oper.uponIn] at h ⊢
      case panic u => exact hQ _ _ _ h
  · rename_i hw
    simp only [hw] at h
    exact ⟨fun _ _ => trivial, keep a hy _, by rw [← Act.put_comm a v undef h2]; exact h.2⟩
def noDefers (ops : Array Oper) : Bool := ops.all fun o => noDefer o.op
theorem noDefers_spec (h : noDefers ops = true) (j : Nat) (o : Oper) (ho : ops[j]? = some o) : ∀ c, o.op ≠ .defer c := noDefer_spec (Array.all_eq_true_iff_forall_mem.1 h o (Array.mem_of_getElem? ho))

/-- The store that ends what the others lean on has not been run. -/
def opn (st : Option Nat) (l : Array Bool) : Bool := match st with
  | none => true
  | some s => !l.getD s false
theorem opn_mono {st : Option Nat} {l : Array Bool} {i : Nat} (h : opn st (l.setIfInBounds i true) = true) : opn st l = true := by
  cases st with
  | none => rfl
  | some s =>
    simp only [opn, Bool.not_eq_true'] at h ⊢
    cases hl : l.getD s false with
    | false => rfl
    | true => rw [getD_set_true hl] at h; exact h
theorem opn_set {st : Option Nat} {l : Array Bool} {i : Nat} (hi : st ≠ some i) (h : opn st l = true) : opn st (l.setIfInBounds i true) = true := by
  cases st with
  | none => rfl
  | some s =>
    simp only [opn, Bool.not_eq_true'] at h ⊢
    rw [getD_set_ne false (fun e => hi (by rw [e]))]; exact h
/-- The store waits for i. -/
def depB (ops : Array Oper) (st : Option Nat) (i : Nat) : Bool := match st with
  | none => true
  | some s => !Nat.beq s i && ((ops[s]?).map (·.after.any fun e => Region.binds .any e && Nat.beq e.on i)).getD false
theorem depB_ne {st : Option Nat} {i : Nat} (h : depB ops st i = true) : st ≠ some i := by
  rintro rfl
  simp [depB] at h
theorem depB_opn {st : Option Nat} {i : Nat} (h : depB ops st i = true) {l : Array Bool} (inv : HeadInv .any ops nh l) (hun : l.getD i true = false) : opn st l = true := by
  cases st with
  | none => rfl
  | some s =>
    simp only [depB, Bool.and_eq_true] at h
    obtain ⟨_, h⟩ := h
    cases ho : ops[s]? with
    | none => rw [ho] at h; cases h
    | some os =>
      rw [ho] at h
      simp only [Option.map_some, Option.getD_some] at h
      obtain ⟨e, he, h2⟩ := Array.any_eq_true'.1 h
      simp only [Bool.and_eq_true] at h2
      simp only [opn, Bool.not_eq_true']
      cases hl : l.getD s false with
      | false => rfl
      | true =>
        have h3 := inv.closed s os ho hl e he h2.1
        rw [Nat.eq_of_beq_eq_true h2.2, getD_both hun] at h3
        cases h3
def neB (st : Option Nat) (i : Nat) : Bool := match st with
  | none => true
  | some s => !Nat.beq s i
/-- The head of a region, in whatever order: S holds behind each operation, until the store st has been run; L at the end. -/
def hdAny (ro : Option Nat) (P : Program) (ops : Array Oper) (Q : Exit → Act → World → Prop) (st : Option Nat) (S : World → Prop) (nh : Nat) (L : Array Bool → Act → World → Prop) : Nat → Array Bool → Act → World → Prop
  | 0, listed, a, w => L listed a w
  | f + 1, listed, a, w => Region.ready .any ops listed ≠ [] ∧ ∀ i ∈ Region.ready .any ops listed, i < nh ∧ wpOpIn (FR ro) DEP P ops Q i (fun a' w' => (opn st (listed.setIfInBounds i true) = true → S w') ∧ hdAny ro P ops Q st S nh L f (listed.setIfInBounds i true) a' w') a w

theorem wpAny_of_hd {st : Option Nat} {L : Array Bool → Act → World → Prop} {g : Nat} (hL : ∀ listed a w, L listed a w → wpAnyIn (FR ro) DEP P .any ops Q g listed a w) :
    ∀ (f : Nat) (listed : Array Bool) (a : Act) (w : World), hdAny ro P ops Q st S nh L f listed a w → wpAnyIn (FR ro) DEP P .any ops Q (f + g) listed a w
  | 0, listed, a, w, h => by rw [Nat.zero_add]; exact hL _ _ _ h
  | f + 1, listed, a, w, h => by
    rw [show f + 1 + g = (f + g) + 1 by omega]
    exact ⟨fun h0 => absurd h0 h.1, fun i hi => wpOpIn_mono (fun a' w' h' => wpAny_of_hd hL f _ a' w' h'.2) (h.2 i hi).2⟩

/-- No operation of the tail comes up while one of the head waits. -/
def TailWaits (ops : Array Oper) (nh : Nat) : Prop :=
  ∀ (listed : Array Bool), HeadInv .any ops nh listed → ∀ i, i < nh → listed.getD i true = false → ∀ t ∈ Region.ready .any ops listed, t < nh
def tailB (ops : Array Oper) (nh : Nat) : Bool := decide (nh = ops.size) || (decide (nh < ops.size) && Region.sinkB .any ops nh && Region.chainB .any ops nh)
theorem tailWaits_of (h : tailB ops nh = true) : TailWaits ops nh := by
  intro listed inv i hi hun t ht
  unfold tailB at h
  simp only [Bool.or_eq_true, Bool.and_eq_true, decide_eq_true_eq] at h
  rcases h with h | ⟨⟨h1, h2⟩, h3⟩
  · obtain ⟨_, o, ho, _⟩ := mem_ready.1 ht
    have := (Array.getElem?_eq_some_iff.1 ho).1
    omega
  · rcases Nat.lt_or_ge t nh with h | h
    · exact h
    · exact absurd ht (tail_waits h2 h3 h1 inv _ i rfl hi hun t h)

theorem hd_first {st : Option Nat} {S' : World → Prop} {i : Nat} {oi : Oper} {v : Value} {L : Array Bool → Act → World → Prop} (hi : ops[i]? = some oi) (hsel : ∀ (j : Nat) (o : Oper) cs b, ops[j]? = some o → o.op ≠ .select cs b)
    (hnd : ∀ (j : Nat) (o : Oper), ops[j]? = some o → ∀ c, o.op ≠ .defer c) (ht : TailWaits ops nh) (hin : i < nh) (hQ : ∀ c a w, Q (.panic c) (a.put oi.dst v) w → Q (.panic c) a w)
    (hdone : ∀ listed a w, L listed a w → ∀ j ∈ Region.ready .any ops listed, nh ≤ j) (his : st ≠ some i)
    (hSS : ∀ l w, HeadInv .any ops nh l → l.getD i true = false → (opn st l = true → S w) → S' w) :
    ∀ (f : Nat) (listed : Array Bool) (a : Act) (w : World), HeadInv .any ops nh listed →
      (∀ j oj, ops[j]? = some oj → j ≠ i → listed.getD j true = false → (∀ e ∈ oj.after, Region.binds .any e = true → e.on ≠ i) → oi.apart ops oj = true) →
      i ∈ Region.ready .any ops listed → YieldsIf P ops S' oi v a → (opn st listed = true → S w) →
      hdAny ro P ops Q st S nh L f (listed.setIfInBounds i true) (a.put oi.dst v) w → hdAny ro P ops Q st S nh L (f + 1) listed a w := by
  intro f
  induction f with
  | zero =>
    intro listed a w inv _ hr hy hS H
    have hun := (mem_ready.1 hr).1
    refine ⟨fun h => (by rw [h] at hr; cases hr), fun j hj => ?_⟩
    have hjn := ht listed inv i hin hun j hj
    refine ⟨hjn, ?_⟩
    by_cases hji : j = i
    · subst hji; exact yields_wp (hnd _ _ hi) hi hy (hSS _ _ inv hun hS) ⟨fun h => hS (opn_mono h), H⟩
    · have := hdone _ _ _ H j (ready_mono hj hji)
      omega
  | succ f ih =>
    intro listed a w inv hfree hr hy hS H
    have hun := (mem_ready.1 hr).1
    refine ⟨fun h => (by rw [h] at hr; cases hr), fun j hj => ?_⟩
    have hjn := ht listed inv i hin hun j hj
    refine ⟨hjn, ?_⟩
    by_cases hji : j = i
    · subst hji; exact yields_wp (hnd _ _ hi) hi hy (hSS _ _ inv hun hS) ⟨fun h => hS (opn_mono h), H⟩
    · have h1 := (H.2 j (ready_mono hj hji)).2
      obtain ⟨hjun, oj, hoj, hall⟩ := mem_ready.1 hj
      have hnot : ∀ e ∈ oj.after, Region.binds .any e = true → e.on ≠ i := fun e he hb heq => by
        have h1 := hall e he hb
        rw [heq, getD_both hun] at h1
        cases h1
      have h2 := wpOpIn_putIf (hnd j oj hoj) hoj (hfree j oj hoj hji hjun hnot) (fun cs b => hsel i oi cs b hi) (fun cs b => hsel j oj cs b hoj) hQ hy h1
      have hfree' : ∀ k ok, ops[k]? = some ok → k ≠ i → (listed.setIfInBounds j true).getD k true = false →
          (∀ e ∈ ok.after, Region.binds .any e = true → e.on ≠ i) → oi.apart ops ok = true := fun k ok hk hki hun hno => by
        refine hfree k ok hk hki ?_ hno
        by_cases hjk : j = k
        · subst hjk; exact hjun
        · rw [getD_set_ne true hjk] at hun; exact hun
      refine wpOpIn_mono (fun a' w' h3 => ?_) h2
      have hSj : opn st (listed.setIfInBounds j true) = true → S w' := fun ho => h3.2.1 (by rw [Array.setIfInBounds_comm _ _ (Ne.symm hji)]; exact opn_set his ho)
      refine ⟨hSj, ih (listed.setIfInBounds j true) a' w' (inv.set hj hjn) hfree' (ready_mono hr (Ne.symm hji)) h3.1 hSj ?_⟩
      rw [Array.setIfInBounds_comm _ _ hji]
      exact h3.2.2

/-- A plan's step: number i, taken first; run because nothing else may come up; or two of them, in either order. -/
inductive Pl where
  | t (i : Nat)
  | m (i : Nat)
  | r (i : Nat)
  | f (i j : Nat)
  | g (i j p k : Nat)
  | b (i j : Nat) (p q : List (Nat × Nat))
def plen : List Pl → Nat
  | [] => 0
  | .t _ :: r => plen r + 1
  | .m _ :: r => plen r + 1
  | .r _ :: r => plen r + 1
  | .f _ _ :: r => plen r + 1 + 1
  | .g _ _ _ _ :: r => plen r + 1 + 1 + 1 + 1
  | .b _ _ p _ :: r => p.length + plen r + 1
def planLin (ops : Array Oper) (nh : Nat) (st : Option Nat) : List (Nat × Nat) → Array Bool → Bool
  | [], listed => Region.seqB .any ops (ops.size - nh) nh listed
  | (0, i) :: r, listed => Nat.blt i nh && (Region.ready .any ops listed).contains i && Region.free .any ops listed i && depB ops st i && planLin ops nh st r (listed.setIfInBounds i true)
  | (1, i) :: r, listed => Nat.blt i nh && (Region.ready .any ops listed).contains i && Region.free .any ops listed i && neB st i && planLin ops nh st r (listed.setIfInBounds i true)
  | (_, i) :: r, listed => Nat.blt i nh && decide (Region.ready .any ops listed = [i]) && planLin ops nh st r (listed.setIfInBounds i true)
def planOk (ops : Array Oper) (nh : Nat) (st : Option Nat) : List Pl → Array Bool → Bool
  | [], listed => Region.seqB .any ops (ops.size - nh) nh listed
  | .t i :: r, listed => Nat.blt i nh && (Region.ready .any ops listed).contains i && Region.free .any ops listed i && depB ops st i && planOk ops nh st r (listed.setIfInBounds i true)
  | .m i :: r, listed => Nat.blt i nh && (Region.ready .any ops listed).contains i && Region.free .any ops listed i && neB st i && planOk ops nh st r (listed.setIfInBounds i true)
  | .r i :: r, listed => Nat.blt i nh && decide (Region.ready .any ops listed = [i]) && planOk ops nh st r (listed.setIfInBounds i true)
  | .f i j :: r, listed => Nat.blt i nh && Nat.blt j nh && !Nat.beq i j && decide (Region.ready .any ops listed = [i, j]) && decide (Region.ready .any ops (listed.setIfInBounds i true) = [j]) && decide (Region.ready .any ops (listed.setIfInBounds j true) = [i])
      && planOk ops nh st r ((listed.setIfInBounds i true).setIfInBounds j true)
  | .g i j p k :: r, listed => (Nat.blt i nh && Nat.blt j nh && Nat.blt p nh && Nat.blt k nh) && (!Nat.beq i k && !Nat.beq j k && !Nat.beq p k) && decide (st = none)
      && (decide (Region.ready .any ops listed = [i, k]) && decide (Region.ready .any ops (listed.setIfInBounds i true) = [j, k]) && decide (Region.ready .any ops ((listed.setIfInBounds i true).setIfInBounds j true) = [p, k]) && decide (Region.ready .any ops (((listed.setIfInBounds i true).setIfInBounds j true).setIfInBounds p true) = [k]))
      && (decide (Region.ready .any ops (listed.setIfInBounds k true) = [i]) && decide (Region.ready .any ops ((listed.setIfInBounds i true).setIfInBounds k true) = [j]) && decide (Region.ready .any ops (((listed.setIfInBounds i true).setIfInBounds j true).setIfInBounds k true) = [p]))
      && planOk ops nh st r ((((listed.setIfInBounds i true).setIfInBounds j true).setIfInBounds p true).setIfInBounds k true)
  | .b i j p q :: r, listed => Nat.blt i nh && Nat.blt j nh && r.isEmpty && Nat.beq p.length q.length && decide (Region.ready .any ops listed = [i, j]) && planLin ops nh st p (listed.setIfInBounds i true) && planLin ops nh st q (listed.setIfInBounds j true)
/-- Everything that is asked of a drawn region's text. -/
def drawOk (ops : Array Oper) (nh : Nat) (st : Option Nat) (pl : List Pl) : Bool :=
  noDefers ops && Region.noSelect ops && tailB ops nh && decide (plen pl + (ops.size - nh) = ops.size) && planOk ops nh st pl (Array.replicate ops.size false)
end
section
variable {P : Program} {n : NM} {w0 : Base} {X0 X XS : PMap} {own ownS : Own} {env : Env} {ops : Array Oper} {Q : Exit → Act → World → Prop} {nh : Nat} {ro : Option Nat} {st : Option Nat}
/-- What stands behind the head: the tail, in the text's order. -/
def tailL (ro : Option Nat) (P : Program) (ops : Array Oper) (Q : Exit → Act → World → Prop) (nh : Nat) (listed : Array Bool) (a : Act) (w : World) : Prop :=
  Region.seqB .any ops (ops.size - nh) nh listed = true ∧ wpListIn (FR ro) DEP P ops Q (ops.toList.drop nh) a w

def SD (ro : Option Nat) (P : Program) (n : NM) (w0 : Base) (X0 : PMap) (ops : Array Oper) (Q : Exit → Act → World → Prop) (nh : Nat) (st : Option Nat) (ownS : Own) (XS : PMap) (pl : List Pl) (env : Env) (own : Own) (X : PMap) : Prop :=
  ∀ (listed : Array Bool) a W, Region.noSelect ops = true → noDefers ops = true → TailWaits ops nh → HeadInv .any ops nh listed → planOk ops nh st pl listed = true →
    EOk n env a → Sat w0 X0 own X W → (opn st listed = true → Stab ownS XS W) → hdAny ro P ops Q st (Stab ownS XS) nh (tailL ro P ops Q nh) (plen pl) listed a W

theorem SD.nil (h : SL ro P n w0 X0 ops Q (ops.toList.drop nh) env own X) : SD ro P n w0 X0 ops Q nh st ownS XS [] env own X :=
  fun _ a W _ _ _ _ hp ha hs _ => ⟨hp, h a W ha hs⟩

theorem tail_done {listed : Array Bool} {a : Act} {w : World} (h : tailL ro P ops Q nh listed a w) : ∀ j ∈ Region.ready .any ops listed, nh ≤ j := seqB_ready h.1

/-- An operation that only reads is taken. -/
theorem SD.take {i : Nat} {pl : List Pl} {d : Option Tmp} {op : Op} {ty : TypeId} {pos : String} {af : Array Edge} {g : Option (Nat × Bool)} {v : Value} (hi : ops[i]? = some ⟨d, op, ty, pos, af, g⟩)
    (hQ : ∀ c a w, Q (.panic c) (a.put d v) w → Q (.panic c) a w)
    (h : OpY P n env ownS XS op v) (hg : gwant ops env g = some true) (hd : dok n d = true) (h' : SD ro P n w0 X0 ops Q nh st ownS XS pl (eput env d v) own X) : SD ro P n w0 X0 ops Q nh st ownS XS (.t i :: pl) env own X := by
  intro listed a W hns hnd ht inv hp ha hs hst
  simp only [planOk, Bool.and_eq_true] at hp
  obtain ⟨⟨⟨⟨hin, hr⟩, hf⟩, hdp⟩, hp⟩ := hp
  have hin' : i < nh := Nat.le_of_ble_eq_true hin
  have hr' : i ∈ Region.ready .any ops listed := by simpa using hr
  refine hd_first hi (Region.noSelect_spec hns) (noDefers_spec hnd) ht hin' hQ (fun _ _ _ h => tail_done h) (depB_ne hdp) (fun l w inv hun h => h (depB_opn hdp inv hun)) _ listed a W inv (Region.free_spec hi hf) hr' (.inl ⟨gwant_spec ha hg, fun w hw => h a w _ rfl ha hw⟩) hst ?_
  exact h' _ _ _ hns hnd ht (inv.set hr' hin') hp (ha.eput hd v) hs (fun h => hst (opn_mono h))
/-- An operation that does not run is taken. -/
theorem SD.skip {i : Nat} {pl : List Pl} {d : Option Tmp} {op : Op} {ty : TypeId} {pos : String} {af : Array Edge} {g : Option (Nat × Bool)} (hi : ops[i]? = some ⟨d, op, ty, pos, af, g⟩)
    (hQ : ∀ c a w, Q (.panic c) (a.put d undef) w → Q (.panic c) a w)
    (hg : gwant ops env g = some false) (hd : dok n d = true) (h' : SD ro P n w0 X0 ops Q nh st ownS XS pl (eput env d undef) own X) : SD ro P n w0 X0 ops Q nh st ownS XS (.t i :: pl) env own X := by
  intro listed a W hns hnd ht inv hp ha hs hst
  simp only [planOk, Bool.and_eq_true] at hp
  obtain ⟨⟨⟨⟨hin, hr⟩, hf⟩, hdp⟩, hp⟩ := hp
  have hin' : i < nh := Nat.le_of_ble_eq_true hin
  have hr' : i ∈ Region.ready .any ops listed := by simpa using hr
  refine hd_first hi (Region.noSelect_spec hns) (noDefers_spec hnd) ht hin' hQ (fun _ _ _ h => tail_done h) (depB_ne hdp) (fun l w inv hun h => h (depB_opn hdp inv hun)) _ listed a W inv (Region.free_spec hi hf) hr' (.inr ⟨gwant_spec ha hg, rfl⟩) hst ?_
  exact h' _ _ _ hns hnd ht (inv.set hr' hin') hp (ha.eput hd _) hs (fun h => hst (opn_mono h))
/-- An operation that makes memory, or a call, is run: nothing else may come up. -/
theorem SD.run {i : Nat} {pl : List Pl} {d : Option Tmp} {op : Op} {ty : TypeId} {pos : String} {af : Array Edge} {g : Option (Nat × Bool)} {k : Value → Own → PMap → Prop} (hi : ops[i]? = some ⟨d, op, ty, pos, af, g⟩)
    (h : OpX P n w0 X0 env own X op true k) (hg : gwant ops env g = some true) (hd : dok n d = true) (h' : ∀ v own' X', k v own' X' → SD ro P n w0 X0 ops Q nh st ownS XS pl (eput env d v) own' X') : SD ro P n w0 X0 ops Q nh st ownS XS (.r i :: pl) env own X := by
  intro listed a W hns hnd ht inv hp ha hs hst
  simp only [planOk, Bool.and_eq_true, decide_eq_true_eq] at hp
  obtain ⟨⟨hin, hr⟩, hp⟩ := hp
  have hin' : i < nh := Nat.le_of_ble_eq_true hin
  have hr' : i ∈ Region.ready .any ops listed := by rw [hr]; simp
  refine ⟨by rw [hr]; simp, fun j hj => ?_⟩
  rw [hr] at hj
  have hji : j = i := by simpa using hj
  subst hji
  refine ⟨hin', ?_⟩
  unfold wpOpIn
  simp only [hi]
  rw [if_pos (gwant_spec ha hg)]
  refine h a W _ _ _ _ rfl ha hs fun v own' X' W' hk hs' hgr => ⟨fun h => (hst (opn_mono h)).grow (hgr rfl), ?_⟩
  exact h' v own' X' hk _ _ _ hns hnd ht (inv.set hr' hin') hp (ha.eput hd v) hs' (fun h => (hst (opn_mono h)).grow (hgr rfl))

/-- An operation that does not run is come to: nothing else may come up. -/
theorem SD.skipF {i : Nat} {pl : List Pl} {d : Option Tmp} {op : Op} {ty : TypeId} {pos : String} {af : Array Edge} {g : Option (Nat × Bool)} (hi : ops[i]? = some ⟨d, op, ty, pos, af, g⟩)
    (hg : gwant ops env g = some false) (hd : dok n d = true) (h' : SD ro P n w0 X0 ops Q nh st ownS XS pl (eput env d undef) own X) : SD ro P n w0 X0 ops Q nh st ownS XS (.r i :: pl) env own X := by
  intro listed a W hns hnd ht inv hp ha hs hst
  simp only [planOk, Bool.and_eq_true, decide_eq_true_eq] at hp
  obtain ⟨⟨hin, hr⟩, hp⟩ := hp
  have hin' : i < nh := Nat.le_of_ble_eq_true hin
  have hr' : i ∈ Region.ready .any ops listed := by rw [hr]; simp
  refine ⟨by rw [hr]; simp, fun j hj => ?_⟩
  rw [hr] at hj
  have hji : j = i := by simpa using hj
  subst hji
  refine ⟨hin', ?_⟩
  unfold wpOpIn
  simp only [hi]
  rw [if_neg (by rw [gwant_spec ha hg]; simp)]
  exact ⟨fun _ _ => trivial, fun h => hst (opn_mono h), h' _ _ _ hns hnd ht (inv.set hr' hin') hp (ha.eput hd _) hs (fun h => hst (opn_mono h))⟩
/-- An operation that changes blocks on which the others do not lean. -/
theorem SD.runK {i : Nat} {pl : List Pl} {d : Option Tmp} {op : Op} {ty : TypeId} {pos : String} {af : Array Edge} {g : Option (Nat × Bool)} {gr : Bool} {k : Value → Own → PMap → Prop} (hi : ops[i]? = some ⟨d, op, ty, pos, af, g⟩)
    (h : OpX P n w0 X0 env own X op gr k) (hkeep : ∀ v own' X', k v own' X' → (∀ p ∈ ownS, p ∈ own') ∧ XS.le X') (hg : gwant ops env g = some true) (hd : dok n d = true) (h' : ∀ v own' X', k v own' X' → SD ro P n w0 X0 ops Q nh st ownS XS pl (eput env d v) own' X') : SD ro P n w0 X0 ops Q nh st ownS XS (.r i :: pl) env own X := by
  intro listed a W hns hnd ht inv hp ha hs hst
  simp only [planOk, Bool.and_eq_true, decide_eq_true_eq] at hp
  obtain ⟨⟨hin, hr⟩, hp⟩ := hp
  have hin' : i < nh := Nat.le_of_ble_eq_true hin
  have hr' : i ∈ Region.ready .any ops listed := by rw [hr]; simp
  refine ⟨by rw [hr]; simp, fun j hj => ?_⟩
  rw [hr] at hj
  have hji : j = i := by simpa using hj
  subst hji
  refine ⟨hin', ?_⟩
  unfold wpOpIn
  simp only [hi]
  rw [if_pos (gwant_spec ha hg)]
  refine h a W _ _ _ _ rfl ha hs fun v own' X' W' hk hs' _ => ?_
  obtain ⟨h1, h2⟩ := hkeep v own' X' hk
  have hst' : Stab ownS XS W' := ⟨fun p hp => hs'.stab.own p (h1 p hp), fun q o hq => hs'.stab.pers q o (h2 q o hq)⟩
  exact ⟨fun _ => hst', h' v own' X' hk _ _ _ hns hnd ht (inv.set hr' hin') hp (ha.eput hd v) hs' (fun _ => hst')⟩

def optNe : Option Tmp → Option Tmp → Bool
  | some a, some b => !Nat.beq a b
  | _, _ => true
theorem eput_swap {env : Env} {d1 d2 : Option Tmp} {v1 v2 : Value} (h : optNe d1 d2 = true) : ∀ t v, eget (eput (eput env d1 v1) d2 v2) t = some v → eget (eput (eput env d2 v2) d1 v1) t = some v := by
  intro t v hv
  cases d1 with
  | none => cases d2 <;> exact hv
  | some a =>
    cases d2 with
    | none => exact hv
    | some b =>
      simp only [eput, eget] at hv ⊢
      cases ha : Nat.beq a t <;> cases hb : Nat.beq b t <;> simp only [ha, hb, cond_true, cond_false] at hv ⊢ <;> try exact hv
      have e1 := Nat.eq_of_beq_eq_true ha
      have e2 := Nat.eq_of_beq_eq_true hb
      subst e1; subst e2
      simp [optNe] at h
/-- Two operations of which neither waits for the other: in both orders they come to the same. -/
theorem SD.fork {i j : Nat} {pl : List Pl} {d1 d2 : Option Tmp} {op1 op2 : Op} {tya tyb : TypeId} {pos1 pos2 : String} {af1 af2 : Array Edge} {g1 g2 : Option (Nat × Bool)} {K : Value → Value → Own → PMap → Prop}
    (hi : ops[i]? = some ⟨d1, op1, tya, pos1, af1, g1⟩) (hj : ops[j]? = some ⟨d2, op2, tyb, pos2, af2, g2⟩)
    (h12 : OpX P n w0 X0 env own X op1 true fun v1 own1 X1 => OpX P n w0 X0 (eput env d1 v1) own1 X1 op2 true fun v2 own2 X2 => K v1 v2 own2 X2)
    (h21 : OpX P n w0 X0 env own X op2 true fun v2 own1 X1 => OpX P n w0 X0 (eput env d2 v2) own1 X1 op1 true fun v1 own2 X2 => ∃ own3, own2.Perm own3 ∧ K v1 v2 own3 X2)
    (hg1 : gwant ops env g1 = some true) (hg2 : ∀ v, gwant ops (eput env d1 v) g2 = some true) (hg2' : gwant ops env g2 = some true) (hg1' : ∀ v, gwant ops (eput env d2 v) g1 = some true)
    (hd1 : dok n d1 = true) (hd2 : dok n d2 = true) (hc : optNe d1 d2 = true)
    (h' : ∀ v1 v2 own' X', K v1 v2 own' X' → SD ro P n w0 X0 ops Q nh st ownS XS pl (eput (eput env d1 v1) d2 v2) own' X') : SD ro P n w0 X0 ops Q nh st ownS XS (.f i j :: pl) env own X := by
  intro listed a W hns hnd ht inv hp ha hs hst
  simp only [planOk, Bool.and_eq_true, decide_eq_true_eq, Bool.not_eq_true'] at hp
  obtain ⟨⟨⟨⟨⟨⟨hin, hjn⟩, hne⟩, hr⟩, hri⟩, hrj⟩, hp⟩ := hp
  have hin' : i < nh := Nat.le_of_ble_eq_true hin
  have hjn' : j < nh := Nat.le_of_ble_eq_true hjn
  have hne' : i ≠ j := fun e => by rw [e, Nat.beq_refl] at hne; cases hne
  have hr1 : i ∈ Region.ready .any ops listed := by rw [hr]; simp
  have hr2 : j ∈ Region.ready .any ops listed := by rw [hr]; simp
  have hr3 : j ∈ Region.ready .any ops (listed.setIfInBounds i true) := by rw [hri]; simp
  have hr4 : i ∈ Region.ready .any ops (listed.setIfInBounds j true) := by rw [hrj]; simp
  refine ⟨by rw [hr]; simp, fun q hq => ?_⟩
  rw [hr] at hq
  have hq' : q = i ∨ q = j := by simpa using hq
  rcases hq' with rfl | rfl
  · refine ⟨hin', ?_⟩
    unfold wpOpIn
    simp only [hi]
    rw [if_pos (gwant_spec ha hg1)]
    refine h12 a W _ _ _ _ rfl ha hs fun v1 own1 X1 W1 hk1 hs1 hgr1 => ⟨fun h => (hst (opn_mono h)).grow (hgr1 rfl), ?_⟩
    refine ⟨by rw [hri]; simp, fun q hq => ?_⟩
    rw [hri] at hq
    obtain rfl : q = j := by simpa using hq
    refine ⟨hjn', ?_⟩
    unfold wpOpIn
    simp only [hj]
    rw [if_pos (gwant_spec (ha.eput hd1 v1) (hg2 v1))]
    refine hk1 _ W1 _ _ _ _ rfl (ha.eput hd1 v1) hs1 fun v2 own2 X2 W2 hk2 hs2 hgr2 => ⟨fun h => ((hst (opn_mono (opn_mono h))).grow (hgr1 rfl)).grow (hgr2 rfl), ?_⟩
    exact h' v1 v2 own2 X2 hk2 _ _ _ hns hnd ht ((inv.set hr1 hin').set hr3 hjn') hp ((ha.eput hd1 v1).eput hd2 v2) hs2 (fun h => ((hst (opn_mono (opn_mono h))).grow (hgr1 rfl)).grow (hgr2 rfl))
  · refine ⟨hjn', ?_⟩
    unfold wpOpIn
    simp only [hj]
    rw [if_pos (gwant_spec ha hg2')]
    refine h21 a W _ _ _ _ rfl ha hs fun v2 own1 X1 W1 hk1 hs1 hgr1 => ⟨fun h => (hst (opn_mono h)).grow (hgr1 rfl), ?_⟩
    refine ⟨by rw [hrj]; simp, fun p hq => ?_⟩
    rw [hrj] at hq
    obtain rfl : p = i := by simpa using hq
    refine ⟨hin', ?_⟩
    unfold wpOpIn
    simp only [hi]
    rw [if_pos (gwant_spec (ha.eput hd2 v2) (hg1' v2))]
    refine hk1 _ W1 _ _ _ _ rfl (ha.eput hd2 v2) hs1 fun v1 own2 X2 W2 hk2 hs2 hgr2 => ⟨fun h => ((hst (opn_mono (opn_mono h))).grow (hgr1 rfl)).grow (hgr2 rfl), ?_⟩
    obtain ⟨own3, hperm, hk3⟩ := hk2
    have hee : EOk n (eput (eput env d1 v1) d2 v2) ((a.put d2 v2).put d1 v1) := ((ha.eput hd2 v2).eput hd1 v1).weaken (eput_swap hc)
    have hp2 : planOk ops nh st pl ((listed.setIfInBounds q true).setIfInBounds p true) = true := by rw [Array.setIfInBounds_comm _ _ (Ne.symm hne')]; exact hp
    exact h' v1 v2 own3 X2 hk3 _ _ _ hns hnd ht ((inv.set hr2 hjn').set hr4 hin') hp2 hee (hs2.perm hperm) (fun h => ((hst (opn_mono (opn_mono h))).grow (hgr1 rfl)).grow (hgr2 rfl))

/-- The others lean on more. -/
theorem hdAny_mono {S S' : World → Prop} {L : Array Bool → Act → World → Prop} (hSS : ∀ w, S' w → S w) : ∀ (f : Nat) (listed : Array Bool) (a : Act) (w : World), hdAny ro P ops Q st S' nh L f listed a w → hdAny ro P ops Q st S nh L f listed a w
  | 0, _, _, _, h => h
  | f + 1, _, _, _, h => ⟨h.1, fun i hi => ⟨(h.2 i hi).1, wpOpIn_mono (fun a' w' h' => ⟨fun ho => hSS _ (h'.1 ho), hdAny_mono hSS f _ a' w' h'.2⟩) (h.2 i hi).2⟩⟩
theorem SD.up {pl : List Pl} (ho : ∀ p ∈ ownS, p ∈ own) (hX : XS.le X) (h : SD ro P n w0 X0 ops Q nh st own X pl env own X) : SD ro P n w0 X0 ops Q nh st ownS XS pl env own X := by
  intro listed a W hns hnd ht inv hp ha hs _
  exact hdAny_mono (fun w hw => ⟨fun p hp => hw.own p (ho p hp), fun k o hk => hw.pers k o (hX k o hk)⟩) _ _ _ _ (h listed a W hns hnd ht inv hp ha hs fun _ => hs.stab)
def keepS (ownS : Own) (XS : PMap) (own' : Own) (X' : PMap) : Prop := (∀ p ∈ ownS, p ∈ own') ∧ XS.le X'
theorem keepS.stab {ownS own' : Own} {XS X' : PMap} {W : World} (h : keepS ownS XS own' X') (hs : Sat w0 X0 own' X' W) : Stab ownS XS W := ⟨fun p hp => hs.stab.own p (h.1 p hp), fun q o hq => hs.stab.pers q o (h.2 q o hq)⟩
theorem wpAnyIn_of_seq : ∀ (l : List Oper) (k : Nat) (listed : Array Bool) (a : Act) (w : World), (∀ j, l[j]? = ops[k + j]?) →
    Region.seqB .any ops l.length k listed = true → wpListIn (FR ro) DEP P ops Q l a w → wpAnyIn (FR ro) DEP P .any ops Q l.length listed a w
  | [], _, _, _, _, _, hB, h => ⟨by simpa [Region.seqB] using hB, h⟩
  | o :: l, k, listed, a, w, hl, hB, h => by
    have h0 : ops[k]? = some o := by simpa using (hl 0).symm
    simp only [List.length_cons, Region.seqB, Bool.and_eq_true, decide_eq_true_eq] at hB
    refine ⟨fun h1 => (by rw [hB.1] at h1; cases h1), fun i hi => ?_⟩
    rw [hB.1] at hi
    have hik : i = k := by simpa using hi
    subst hik
    have hw : wpOpIn (FR ro) DEP P ops Q i (wpListIn (FR ro) DEP P ops Q l) a w := by unfold wpOpIn; simp only [h0]; exact h
    exact wpOpIn_mono (fun a' w' h' => wpAnyIn_of_seq l (i + 1) _ a' w' (fun j => by have := hl (j + 1); simpa [Nat.add_assoc, Nat.add_comm 1 j] using this) hB.2 h') hw

/-- THE BEGINNING. -/
theorem SD.start {id : Nat} {a : Act} {W : World} (hm : P.follows .mixedOrders = true) (pl : List Pl) (hok : drawOk ops nh st pl = true) (ha : EOk n env a) (hs : Sat w0 X0 own X W)
    (hS : ∀ p ∈ ownS, p ∈ own) (h : SD ro P n w0 X0 ops Q nh st ownS X pl env own X) : (Code.region id ops true).wpIn (FR ro) DEP P Q a W := by
  simp only [drawOk, Bool.and_eq_true, decide_eq_true_eq] at hok
  obtain ⟨⟨⟨⟨hnd, hns⟩, htb⟩, hlen⟩, hp⟩ := hok
  refine wpIn_region_any hm ?_
  have hs' := hs.draw (W.drawn + 1)
  have inv : HeadInv .any ops nh (Array.replicate ops.size false) := ⟨by simp, (fun j oj _ hl => by rw [getD_replicate_false] at hl; cases hl), (fun t _ ht => by simp [ht])⟩
  have h1 := h (Array.replicate ops.size false) a _ hns hnd (tailWaits_of htb) inv hp ha hs' (fun _ => ⟨fun p hp => hs'.stab.own p (hS p hp), hs'.stab.pers⟩)
  have hsz : ops.size - nh = (ops.toList.drop nh).length := by simp
  have h2 := wpAny_of_hd (g := ops.size - nh) (fun listed a w (hL : tailL ro P ops Q nh listed a w) => by
    have := wpAnyIn_of_seq (P := P) (ops := ops) (Q := Q) (ro := ro) (ops.toList.drop nh) nh listed a w (fun j => by simp) (by rw [← hsz]; exact hL.1) hL.2
    rw [hsz]; exact this) _ _ _ _ h1
  rw [hlen] at h2
  exact h2
end
end Go.Proofs.YtmfiencoefbjfaaGreatDoor
namespace Go.Proofs.YtmfiencoefbjfaaGreatDoor
open Go.RowKit
inductive It where
  | code (c : Code)
  | blk (id : Nat)
  | cut (K : Act → World → Prop)
  | more (c : Code) (n : Nat)

section
variable {ro : Option Nat} {P : Program} {Q : Exit → Act → World → Prop}
/-- What is left to do leads to Q. some id: a block with that number is being left. -/
def runL (ro : Option Nat) (P : Program) (Q : Exit → Act → World → Prop) : List It → Option Nat → Act → World → Prop
  | [], none => Q .normal
  | [], some id => Q (.exit id)
  | .cut K :: _, none => K
  | .cut _ :: k, some id => runL ro P Q k (some id)
  | .blk _ :: k, none => runL ro P Q k none
  | .blk i :: k, some id => bif Nat.beq id i then runL ro P Q k none else runL ro P Q k (some id)
  | .code _ :: k, some id => runL ro P Q k (some id)
  | .more _ _ :: k, some id => runL ro P Q k (some id)
  | .more c n :: k, none => Code.roundsIn (FR ro) DEP P c (fun e => match e with
      | .normal => runL ro P Q k none
      | .exit id => runL ro P Q k (some id)
      | e => Q e) n
  | .code c :: k, none => fun a w => c.wpIn (FR ro) DEP P (fun e => match e with
      | .normal => runL ro P Q k none
      | .exit id => runL ro P Q k (some id)
      | e => Q e) a w

/-- The exits of what is left. -/
def contQ (ro : Option Nat) (P : Program) (Q : Exit → Act → World → Prop) (k : List It) : Exit → Act → World → Prop
  | .normal => runL ro P Q k none
  | .exit id => runL ro P Q k (some id)
  | e => Q e
theorem runL_code {c : Code} {k : List It} {a : Act} {w : World} (h : c.wpIn (FR ro) DEP P (contQ ro P Q k) a w) : runL ro P Q (.code c :: k) none a w := by
  unfold runL
  exact Code.wpIn_mono (fun e a w h => by cases e <;> exact h) h
theorem runL_code_iff {c : Code} {k : List It} {a : Act} {w : World} : runL ro P Q (.code c :: k) none a w ↔ c.wpIn (FR ro) DEP P (contQ ro P Q k) a w :=
  ⟨fun h => by unfold runL at h; exact Code.wpIn_mono (fun e a w h => by cases e <;> exact h) h, runL_code⟩

theorem runL_seq {x y : Code} {k : List It} {a : Act} {w : World} (h : runL ro P Q (.code x :: .code y :: k) none a w) : runL ro P Q (.code (.seq x y) :: k) none a w := by
  refine runL_code (wpIn_seq ?_)
  refine Code.wpIn_mono (fun e a w h => ?_) (runL_code_iff.1 h)
  cases e with
  | normal => exact runL_code_iff.1 h
  | exit id => exact h
  | _ => exact h
theorem runL_skip {k : List It} {a : Act} {w : World} (h : runL ro P Q k none a w) : runL ro P Q (.code .skip :: k) none a w := runL_code (wpIn_skip h)
theorem runL_block {id : Nat} {c : Code} {k : List It} {a : Act} {w : World} (h : runL ro P Q (.code c :: .blk id :: k) none a w) : runL ro P Q (.code (.block id c) :: k) none a w := by
  refine runL_code (wpIn_block ?_)
  refine Code.wpIn_mono (fun e a w h => ?_) (runL_code_iff.1 h)
  cases e with
  | exit id' =>
    simp only [contQ, runL] at h
    simp only [Exit.inBlock]
    by_cases e : id' = id
    · subst e; rw [if_pos rfl]; simpa [contQ] using h
    · have : Nat.beq id' id = false := by
        cases hb : Nat.beq id' id with
        | false => rfl
        | true => exact absurd (Nat.eq_of_beq_eq_true hb) e
      rw [if_neg e]; simpa [this, contQ] using h
  | normal => exact h
  | _ => exact h
theorem runL_exit {id : Nat} {k : List It} {a : Act} {w : World} (h : runL ro P Q k (some id) a w) : runL ro P Q (.code (.exit id) :: k) none a w := runL_code (wpIn_exit h)
theorem runL_ret {k : List It} {a : Act} {w : World} (h : Q .ret a w) : runL ro P Q (.code .ret :: k) none a w := runL_code (wpIn_ret h)
theorem runL_cond {c : Operand} {x y : Code} {k : List It} {a : Act} {w : World} {b : Bool} (hc : a.eval c = .bool b) (h : runL ro P Q (.code (bif b then x else y) :: k) none a w) : runL ro P Q (.code (.cond c x y) :: k) none a w := by
  refine runL_code (wpIn_cond hc ?_)
  have := runL_code_iff.1 h
  cases b <;> exact this

/-- A loop, by a ghost number that every round lowers. -/
theorem loop_ghost {c : Code} (I : Nat → Act → World → Prop) (round : ∀ m a w, I m a w → c.wpIn (FR ro) DEP P (Exit.then (fun a' w' => ∃ m', m' < m ∧ I m' a' w') Q) a w) :
    ∀ m a w, I m a w → (Code.loop c).wpIn (FR ro) DEP P Q a w := by
  have key : ∀ m a w, I m a w → ∀ k, m < k → Code.roundsIn (FR ro) DEP P c Q k a w := by
    intro m
    induction m using Nat.strongRecOn with
    | _ m ih =>
      intro a w h k hk
      obtain ⟨k', rfl⟩ : ∃ k', k = k' + 1 := ⟨k - 1, by omega⟩
      rw [roundsIn_succ]
      refine Code.wpIn_mono (fun e a' w' h' => ?_) (round m a w h)
      cases e with
      | normal => obtain ⟨m', hlt, hI⟩ := h'; exact ih m' hlt a' w' hI k' (by omega)
      | _ => exact h'
  intro m a w h
  exact wpIn_loop_rounds (m + 1) (key m a w h _ (Nat.lt_succ_self m))
end
section
variable {ro : Option Nat} {P : Program} {n : NM} {w0 : Base} {X0 X : PMap} {own : Own} {env : Env} {Q : Exit → Act → World → Prop}
def T (ro : Option Nat) (P : Program) (n : NM) (w0 : Base) (X0 : PMap) (Q : Exit → Act → World → Prop) (todo : List It) (e : Option Nat) (env : Env) (own : Own) (X : PMap) : Prop :=
  ∀ a W, EOk n env a → Sat w0 X0 own X W → runL ro P Q todo e a W

theorem T.seq {x y : Code} {k : List It} (h : T ro P n w0 X0 Q (.code x :: .code y :: k) none env own X) : T ro P n w0 X0 Q (.code (.seq x y) :: k) none env own X := fun a W ha hs => runL_seq (h a W ha hs)
theorem T.skip {k : List It} (h : T ro P n w0 X0 Q k none env own X) : T ro P n w0 X0 Q (.code .skip :: k) none env own X := fun a W ha hs => runL_skip (h a W ha hs)
theorem T.block {id : Nat} {c : Code} {k : List It} (h : T ro P n w0 X0 Q (.code c :: .blk id :: k) none env own X) : T ro P n w0 X0 Q (.code (.block id c) :: k) none env own X := fun a W ha hs => runL_block (h a W ha hs)
theorem T.blk {id : Nat} {k : List It} (h : T ro P n w0 X0 Q k none env own X) : T ro P n w0 X0 Q (.blk id :: k) none env own X := h
theorem T.exit {id : Nat} {k : List It} (h : T ro P n w0 X0 Q k (some id) env own X) : T ro P n w0 X0 Q (.code (.exit id) :: k) none env own X := fun a W ha hs => runL_exit (h a W ha hs)
theorem T.exitCode {id : Nat} {c : Code} {k : List It} (h : T ro P n w0 X0 Q k (some id) env own X) : T ro P n w0 X0 Q (.code c :: k) (some id) env own X := h
theorem T.exitCut {id : Nat} {K : Act → World → Prop} {k : List It} (h : T ro P n w0 X0 Q k (some id) env own X) : T ro P n w0 X0 Q (.cut K :: k) (some id) env own X := h
theorem T.exitBlk {id : Nat} {k : List It} (h : T ro P n w0 X0 Q k none env own X) : T ro P n w0 X0 Q (.blk id :: k) (some id) env own X := fun a W ha hs => by
  have : Nat.beq id id = true := Nat.beq_refl id
  simpa [runL, this] using h a W ha hs
theorem T.cond {c : Operand} {x y : Code} {k : List It} {b : Bool} (hc : eev env c = some (.bool b)) (h : T ro P n w0 X0 Q (.code (bif b then x else y) :: k) none env own X) : T ro P n w0 X0 Q (.code (.cond c x y) :: k) none env own X :=
  fun a W ha hs => runL_cond (ha.eval hc) (h a W ha hs)
theorem T.condT {c : Operand} {x y : Code} {k : List It} (hc : eev env c = some (.bool true)) (h : T ro P n w0 X0 Q (.code x :: k) none env own X) : T ro P n w0 X0 Q (.code (.cond c x y) :: k) none env own X := T.cond hc h
theorem T.condF {c : Operand} {x y : Code} {k : List It} (hc : eev env c = some (.bool false)) (h : T ro P n w0 X0 Q (.code y :: k) none env own X) : T ro P n w0 X0 Q (.code (.cond c x y) :: k) none env own X := T.cond hc h
theorem T.region {id : Nat} {ops : List Oper} {k : List It} (h : SL ro P n w0 X0 ops.toArray (contQ ro P Q k) ops env own X) : T ro P n w0 X0 Q (.code (.region id ops.toArray false) :: k) none env own X :=
  fun a W ha hs => runL_code (wpIn_region_lit (h a W ha hs))
theorem T.draw {id : Nat} {ops : Array Oper} {k : List It} (hm : P.follows .mixedOrders = true) (nh : Nat) (pl : List Pl) (hok : drawOk ops nh none pl = true)
    (h : SD ro P n w0 X0 ops (contQ ro P Q k) nh none own X pl env own X) : T ro P n w0 X0 Q (.code (.region id ops true) :: k) none env own X :=
  fun _ _ ha hs => runL_code (SD.start hm pl hok ha hs (fun _ h => h) h)
theorem T.drawG {id : Nat} {ops : Array Oper} {k : List It} {own0 G : Own} (hm : P.follows .mixedOrders = true) (nh : Nat) (pl : List Pl) (hok : drawOk ops nh none pl = true)
    (h : SD ro P n w0 X0 ops (contQ ro P Q k) nh none own0 X pl env (own0 ++ G) X) : T ro P n w0 X0 Q (.code (.region id ops true) :: k) none env (own0 ++ G) X :=
  fun _ _ ha hs => runL_code (SD.start hm pl hok ha hs (fun _ h => List.mem_append_left _ h) h)
/-- The end of a region: on with the rest. -/
theorem SL.nil {ops : Array Oper} {k : List It} (h : T ro P n w0 X0 Q k none env own X) : SL ro P n w0 X0 ops (contQ ro P Q k) [] env own X := h
theorem T.weaken {k : List It} {e : Option Nat} {env' : Env} (hw : ∀ t v, eget env' t = some v → eget env t = some v) (h : T ro P n w0 X0 Q k e env' own X) : T ro P n w0 X0 Q k e env own X := fun a W ha hs => h a W (ha.weaken hw) hs

theorem T.exitMore {id m : Nat} {c : Code} {k : List It} (h : T ro P n w0 X0 Q k (some id) env own X) : T ro P n w0 X0 Q (.more c m :: k) (some id) env own X := h
/-- A loop of at most m rounds, round by round. -/
theorem T.unrollStart {c : Code} {k : List It} (m : Nat) (h : T ro P n w0 X0 Q (.more c m :: k) none env own X) : T ro P n w0 X0 Q (.code (.loop c) :: k) none env own X := fun a W ha hs => by
  refine runL_code (wpIn_loop_rounds m ?_)
  have := h a W ha hs
  unfold runL at this
  have e : (fun e => match e with
      | .normal => runL ro P Q k none
      | .exit id => runL ro P Q k (some id)
      | e => Q e) = contQ ro P Q k := by funext e; cases e <;> rfl
  rwa [e] at this
theorem T.unroll {c : Code} {k : List It} {m : Nat} (h : T ro P n w0 X0 Q (.code c :: .more c m :: k) none env own X) : T ro P n w0 X0 Q (.more c (m + 1) :: k) none env own X := fun a W ha hs => by
  have := runL_code_iff.1 (h a W ha hs)
  unfold runL
  rw [roundsIn_succ]
  refine Code.wpIn_mono (fun e a w h => ?_) this
  cases e with
  | normal => simp only [contQ, runL] at h; exact h
  | exit id => exact h
  | _ => exact h
/-- A family of states: where a loop's rounds begin. -/
def Fam := Nat → Env → Own → PMap → Prop
def Fam.at (n : NM) (w0 : Base) (X0 : PMap) (I : Fam) (m : Nat) (a : Act) (W : World) : Prop := ∃ env own X, I m env own X ∧ EOk n env a ∧ Sat w0 X0 own X W
/-- Where the walk comes back to the head of a loop. -/
def backTo (n : NM) (w0 : Base) (X0 : PMap) (I : Fam) (m : Nat) : It := .cut fun a W => ∃ m', m' < m ∧ Fam.at n w0 X0 I m' a W
theorem T.loop {c : Code} {k : List It} (I : Fam) (m : Nat) (h0 : I m env own X)
    (round : ∀ m env own X, I m env own X → T ro P n w0 X0 Q (.code c :: backTo n w0 X0 I m :: k) none env own X) : T ro P n w0 X0 Q (.code (.loop c) :: k) none env own X := by
  intro a W ha hs
  refine runL_code (loop_ghost (Fam.at n w0 X0 I) ?_ m a W ⟨env, own, X, h0, ha, hs⟩)
  rintro m a W ⟨env, own, X, hI, ha, hs⟩
  refine Code.wpIn_mono (fun e a w h => ?_) (runL_code_iff.1 (round m env own X hI a W ha hs))
  cases e with
  | normal => exact h
  | exit id => exact h
  | _ => exact h
theorem T.back {I : Fam} {m : Nat} {k : List It} (m' : Nat) (hm : m' < m) {env' : Env} (hI : I m' env' own X) (hw : ∀ t v, eget env' t = some v → eget env t = some v) : T ro P n w0 X0 Q (backTo n w0 X0 I m :: k) none env own X :=
  fun _ _ ha hs => ⟨m', hm, env', own, X, hI, ha.weaken hw, hs⟩
end
/-- What a call leaves: a value of which Φ holds over a map that grew by blocks that are new; nothing that was there has changed. -/
def Fin (w0 : World) (X0 : PMap) (Φ : Value → PMap → Prop) (e : Ending) (w' : World) : Prop :=
  ∃ v X', e = .returned v ∧ Below w0.heap.size w0 w' ∧ PIn X' w' ∧ (∀ k, k < w0.heap.size → X' k = X0 k) ∧ Φ v X'
def Spec (P : Program) (f : FuncId) (args : List Value) (X0 : PMap) (Φ : Value → PMap → Prop) : Prop := ∀ w, PIn X0 w → Calls P f args.toArray w (Fin w X0 Φ)
theorem Spec.mono {P : Program} {f : FuncId} {args : List Value} {X0 : PMap} {Φ Ψ : Value → PMap → Prop} (h : Spec P f args X0 Φ) (hm : ∀ v X, X0.le X → Φ v X → Ψ v X) : Spec P f args X0 Ψ := fun w hw =>
  (h w hw).mono fun _ _ ⟨v, X', he, hb, hp, hk, hΦ⟩ => ⟨v, X', he, hb, hp, hk, hm v X' (fun k _ hx => (hk k (hw.lt hx)).trans hx) hΦ⟩

/-- What a body must achieve: it comes back; the marks are taken. -/
def bodyQ (P : Program) (fn : Func) (R : Ending → World → Prop) : Exit → Act → World → Prop
  | .normal, a, w | .ret, a, w => LeavesInM (FR none) DEP P fn a.tmps R a.defers .returning w
  | _, _, _ => False
theorem bodyQ_post {P : Program} {fn : Func} {R : Ending → World → Prop} : ∀ e a w, bodyQ P fn R e a w → bodyPostM (FR none) DEP P fn R e a w := by
  intro e a w h
  cases e <;> first | exact h | exact h.elim
def markOf (D : Nat) : Deferred := { target := .collected D, args := #[] }
def MarkObj : Obj := .deferred (some [])
def takes : List Nat → World → World
  | [], W => W
  | D :: Ds, W => takes Ds (W.putObj D (.deferred none))
theorem leaves_marks {P : Program} {fn : Func} {tmps : Array Value} {R : Ending → World → Prop} : ∀ (Ds : List Nat) (W : World), Ds.Nodup → (∀ D ∈ Ds, W.heap[D]? = some MarkObj) → (∃ v, (results fn tmps).run P (takes Ds W) = .ok v (takes Ds W) ∧ R (.returned v) (takes Ds W)) →
    LeavesInM (FR none) DEP P fn tmps R (Ds.map markOf) .returning W
  | [], W, _, _, h => h
  | D :: Ds, W, hn, hD, h => by
    have hn' := List.nodup_cons.1 hn
    refine ⟨by simp, .inl ⟨D, W.putObj D (.deferred none), rfl, run_takeDeferred (hD D (by simp)), leaves_marks Ds _ hn'.2 (fun E hE => ?_) h⟩⟩
    have hne : D ≠ E := fun e => hn'.1 (e ▸ hE)
    exact (World.putObj_heap_other (Ne.symm hne)).trans (hD E (by simp [hE]))
theorem takes_far : ∀ (Ds : List Nat) (W : World) (k : Nat), k ∉ Ds → (takes Ds W).heap[k]? = W.heap[k]?
  | [], _, _, _ => rfl
  | D :: Ds, W, k, h => by
    simp only [List.mem_cons, not_or] at h
    rw [takes, takes_far Ds _ k h.2]
    exact World.putObj_heap_other h.1
theorem takes_below {B : Nat} : ∀ (Ds : List Nat) (A W : World), Below B A W → B ≤ W.heap.size → (∀ D ∈ Ds, B ≤ D) → Below B A (takes Ds W)
  | [], _, _, h, _, _ => h
  | D :: Ds, A, W, h, hB, hD => takes_below Ds A _ (h.grown (grownBy_putObj' W D _) hB (fun k e => by cases e; exact hD D (by simp))) (by simpa [World.putObj] using hB) fun E hE => hD E (by simp [hE])
/-- The marks that wait are those of the blocks that are held fast. -/
def Marks (n : NM) (w0 : Base) : Prop := ∃ Ds : List Nat, n.marks = Ds.map markOf ∧ w0.res = Ds.map (fun D => (D, MarkObj)) ∧ Ds.Nodup

def argEnv : Nat → List Value → Env
  | _, [] => []
  | i, v :: vs => (i, v) :: argEnv (i + 1) vs
theorem eget_argEnv : ∀ (vs : List Value) (i t : Nat) (v : Value), eget (argEnv i vs) t = some v → i ≤ t ∧ vs[t - i]? = some v
  | [], _, _, _, h => by simp [argEnv, eget] at h
  | u :: vs, i, t, v, h => by
    simp only [argEnv, eget] at h
    cases hb : Nat.beq i t with
    | true =>
      have : i = t := Nat.eq_of_beq_eq_true hb
      subst this
      rw [hb] at h
      simpa using h
    | false =>
      rw [hb] at h
      have hne : i ≠ t := Nat.ne_of_beq_eq_false hb
      obtain ⟨h1, h2⟩ := eget_argEnv vs (i + 1) t v h
      refine ⟨by omega, ?_⟩
      rw [show t - i = (t - (i + 1)) + 1 by omega]
      simpa using h2

/-- THE BEGINNING OF A FUNCTION. -/
theorem Calls.enter {P : Program} {f : FuncId} {fn : Func} {c : Code} {args : List Value} {X0 : PMap} {R : Ending → World → Prop} {w : World} (hf : P.funcs[f]? = some fn) (hb : fn.body = some c) {n : Nat} (hn : fn.ntmps = n) (hl : Nat.ble args.length n = true) (hw : PIn X0 w)
    (h : T none P ⟨n, []⟩ ⟨w, []⟩ X0 (bodyQ P fn R) [.code c] none (argEnv 0 args) [] X0) : Calls P f args.toArray w R := by
  have hl' : args.length ≤ n := Nat.le_of_ble_eq_true hl
  refine (fr_calls (ro := none) (m := DEP)).1 (callsIn_of_wp_marks (F := FR none) hf hb trivial ?_)
  have := h { tmps := args.toArray ++ Array.replicate (fn.ntmps - args.toArray.size) undef, defers := [] } w ⟨rfl, by simp; omega, fun t v ht => ?_⟩ (Sat.start w hw)
  · refine Code.wpIn_mono (fun e a w h => bodyQ_post _ _ _ ?_) (runL_code_iff.1 this)
    cases e <;> exact h
  · obtain ⟨_, h2⟩ := eget_argEnv _ _ _ _ ht
    simp only [Nat.sub_zero] at h2
    have hlt : t < args.length := by
      rcases Nat.lt_or_ge t args.length with h1 | h1
      · exact h1
      · rw [List.getElem?_eq_none h1] at h2; cases h2
    rw [List.getElem?_eq_getElem hlt] at h2
    simp only [Option.some.injEq] at h2
    subst h2
    have : t < args.length + (n - args.length) := by omega
    simp [Array.getD, hn, this, hlt]
theorem Spec.enter {P : Program} {f : FuncId} {fn : Func} {c : Code} {args : List Value} {X0 : PMap} {Φ : Value → PMap → Prop} (hf : P.funcs[f]? = some fn) (hb : fn.body = some c) {n : Nat} (hn : fn.ntmps = n) (hl : Nat.ble args.length n = true)
    (h : ∀ w, PIn X0 w → T none P ⟨n, []⟩ ⟨w, []⟩ X0 (bodyQ P fn (Fin w X0 Φ)) [.code c] none (argEnv 0 args) [] X0) : Spec P f args X0 Φ := fun w hw => Calls.enter hf hb hn hl hw (h w hw)

section
variable {ro : Option Nat} {P : Program} {n : NM} {w0 : Base} {X0 X : PMap} {own : Own} {env : Env} {fn : Func} {Φ : Value → PMap → Prop}
theorem panicBody {R : Ending → World → Prop} {k : List It} {d : Option Tmp} {v : Value} : ∀ c a w, contQ ro P (bodyQ P fn R) k (.panic c) (a.put d v) w → contQ ro P (bodyQ P fn R) k (.panic c) a w := by
  intro c a w h
  cases d <;> exact h

/-- A cell, or a row of cells, of a block. -/
def cread (row : Bool) (size : Nat) (cs : List Value) (i : Nat) : Option Value :=
  bif row then (bif Nat.ble (i + size) cs.length then some (.agg ((cs.drop i).take size).toArray) else none) else cs[i]?
/-- What is known of a type. -/
structure Ty (P : Program) (t : TypeId) (row : Bool) (size : Nat) : Prop where
  und : ∃ d, P.underlying t = some d ∧ d.isRow = row
  info : (P.info? t).map (·.size) = some size
theorem isAgg_row {t : TypeId} {d : TypeDesc} (h : P.underlying t = some d) (w : World) : (isAgg t).run P w = .ok d.isRow w := by
  unfold isAgg
  rw [Sem.run_bind, run_underlying h w]
  cases d <;> rfl
theorem run_loadVar_cells {t : TypeId} {row : Bool} {size : Nat} (ht : Ty P t row size) {b i : Nat} {cs : List Value} {v : Value} {W : World} (hc : ∀ j u, cs[j]? = some u → W.cell? ⟨b, j, none⟩ = some u) (hv : cread row size cs i = some v) :
    (loadVar t ⟨b, i, none⟩).run P W = .ok v W := by
  obtain ⟨d, hd, hrow⟩ := ht.und
  cases row with
  | true =>
    simp only [cread, cond_true] at hv
    cases hb : Nat.ble (i + size) cs.length with
    | false => rw [hb] at hv; cases hv
    | true =>
      rw [hb] at hv
      have hle : i + size ≤ cs.length := Nat.le_of_ble_eq_true hb
      have hv' : v = .agg ((cs.drop i).take size).toArray := by simpa using hv.symm
      subst hv'
      refine run_loadVar_mid W b i t ((cs.drop i).take size) d (fun j u hu => ?_) hd hrow (by rw [ht.info]; simp; omega)
      rw [List.getElem?_take] at hu
      split at hu
      · rw [List.getElem?_drop] at hu; exact hc _ _ hu
      · cases hu
  | false =>
    have hv' : cs[i]? = some v := by simpa [cread] using hv
    have hcell := hc i v hv'
    simp [loadVar, Sem.run_bind, isAgg_row hd W, hrow, load, Sem.run, hcell, Result.andThen]

/-- The value of a result variable. -/
inductive ResIs (P : Program) (env : Env) (own : Own) : ResultVar → Value → Prop
  | tmp {t : Tmp} {v : Value} : eget env t = some v → ResIs P env own (.tmp t) v
  | cell {p : Tmp} {t : TypeId} {row : Bool} {size b i j sz : Nat} {cs : List Value} {ty : TypeId} {v : Value} : eget env p = some (.pointer (some ⟨b, i, none⟩)) → Ty P t row size → AtO own b cs ty sz j → cread row size cs i = some v → ResIs P env own (.cell p t) v
inductive ResAll (P : Program) (env : Env) (own : Own) : List ResultVar → List Value → Prop
  | nil : ResAll P env own [] []
  | cons {r : ResultVar} {v : Value} {rs : List ResultVar} {vs : List Value} : ResIs P env own r v → ResAll P env own rs vs → ResAll P env own (r :: rs) (v :: vs)
theorem run_cell {p : Tmp} {t : TypeId} {v : Value} {a : Act} {W : World} (ha : EOk n env a) (hs : Stab own X W) {row : Bool} {size b i j sz : Nat} {cs : List Value} {ty : TypeId} (hp : eget env p = some (.pointer (some ⟨b, i, none⟩))) (ht : Ty P t row size) (ho : AtO own b cs ty sz j) (hv : cread row size cs i = some v) :
    a.tmps.getD p undef = .pointer (some ⟨b, i, none⟩) ∧ (loadVar t ⟨b, i, none⟩).run P W = .ok v W :=
  ⟨ha.get _ _ hp, run_loadVar_cells (W := W) ht (fun _ _ hu => (hs.own _ ho.mem).cell hu) hv⟩
theorem run_results0 (hr : fn.results = #[]) {a : Act} {W : World} : (results fn a.tmps).run P W = .ok (.tuple #[]) W := results_none hr _ _ _
theorem run_results1 {r : ResultVar} {v : Value} (hr : fn.results = #[r]) (h : ResIs P env own r v) {a : Act} {W : World} (ha : EOk n env a) (hs : Stab own X W) : (results fn a.tmps).run P W = .ok v W := by
  cases h with
  | tmp h => simp [results, hr, ← ha.get _ _ h]
  | cell hp ht ho hv =>
    obtain ⟨h1, h2⟩ := run_cell ha hs hp ht ho hv
    rw [Array.getD_eq_getD_getElem?] at h1
    simp [results, hr, h1, asAddr, h2]
theorem run_results2 {r r' : ResultVar} {v v' : Value} (hr : fn.results = #[r, r']) (h : ResIs P env own r v) (h' : ResIs P env own r' v') {a : Act} {W : World} (ha : EOk n env a) (hs : Stab own X W) : (results fn a.tmps).run P W = .ok (.tuple #[v, v']) W := by
  cases h with
  | tmp h =>
    have h0 := ha.get _ _ h
    rw [Array.getD_eq_getD_getElem?] at h0
    cases h' with
    | tmp h' =>
      have h0' := ha.get _ _ h'
      rw [Array.getD_eq_getD_getElem?] at h0'
      simp [results, hr, h0, h0']
    | cell hp ht ho hv =>
      obtain ⟨h1, h2⟩ := run_cell ha hs hp ht ho hv
      rw [Array.getD_eq_getD_getElem?] at h1
      simp [results, hr, h0, h1, asAddr, h2, Result.andThen]
  | cell hp ht ho hv =>
    obtain ⟨h1, h2⟩ := run_cell ha hs hp ht ho hv
    rw [Array.getD_eq_getD_getElem?] at h1
    cases h' with
    | tmp h' =>
      have h0' := ha.get _ _ h'
      rw [Array.getD_eq_getD_getElem?] at h0'
      simp [results, hr, h1, asAddr, h2, Result.andThen, h0']
    | cell hp ht ho hv =>
      obtain ⟨h3, h4⟩ := run_cell ha hs hp ht ho hv
      rw [Array.getD_eq_getD_getElem?] at h3
      simp [results, hr, h1, h3, asAddr, h2, h4, Sem.run_bind, Result.andThen]
theorem run_results3 {t t' t'' : Tmp} {v v' v'' : Value} (hr : fn.results = #[.tmp t, .tmp t', .tmp t'']) (h : eget env t = some v) (h' : eget env t' = some v') (h'' : eget env t'' = some v'') {a : Act} {W : World} (ha : EOk n env a) : (results fn a.tmps).run P W = .ok (.tuple #[v, v', v'']) W := by
  have h0 := ha.get _ _ h
  have h1 := ha.get _ _ h'
  have h2 := ha.get _ _ h''
  rw [Array.getD_eq_getD_getElem?] at h0 h1 h2
  simp [results, hr, h0, h1, h2]

/-- THE RETURN. -/
theorem leave_all {R : Ending → World → Prop} {v : Value} (hM : Marks n w0) {a : Act} {W : World} (ha : EOk n env a) (hs : Sat w0 X0 own X W) (hr : ∀ W, Stab own X W → (results fn a.tmps).run P W = .ok v W)
    (hR : ∀ W', Below w0.heap.size w0.w W' → PIn X W' → R (.returned v) W') : LeavesInM (FR none) DEP P fn a.tmps R a.defers .returning W := by
  obtain ⟨Ds, h1, h2, h3⟩ := hM
  rw [ha.defers, h1]
  have hres : ∀ D ∈ Ds, W.heap[D]? = some MarkObj ∧ X D = none ∧ (∀ q ∈ own, q.b ≠ D) ∧ w0.w.heap.size ≤ D := fun D hD => hs.res (D, MarkObj) (by rw [h2]; exact List.mem_map_of_mem hD)
  have hst : Stab own X (takes Ds W) := by
    refine ⟨fun p hp => ?_, fun k o hk => ?_⟩
    · obtain ⟨r, hr, hz⟩ := hs.stab.own p hp
      exact ⟨r, (takes_far Ds W p.b (fun hm => (hres _ hm).2.2.1 p hp rfl)).trans hr, hz⟩
    · refine (takes_far Ds W k (fun hm => ?_)).trans (hs.stab.pers k o hk)
      have := (hres _ hm).2.1
      rw [this] at hk; cases hk
  exact leaves_marks Ds W h3 (fun D hD => (hres D hD).1) ⟨v, hr _ hst, hR _ (takes_below Ds _ _ hs.below hs.below.size fun D hD => (hres D hD).2.2.2) hst.pers⟩
theorem T.ret {v : Value} {k : List It} (hr : ∀ a W, EOk n env a → Stab own X W → (results fn a.tmps).run P W = .ok v W) (hΦ : Φ v X) (hM : Marks n w0) : T ro P n w0 X0 (bodyQ P fn (Fin w0.w X0 Φ)) (.code .ret :: k) none env own X :=
  fun a _ ha hs => runL_ret (leave_all hM ha hs (fun _ h => hr a _ ha h) fun _ h1 h2 => ⟨v, X, rfl, h1, h2, hs.old, hΦ⟩)
theorem T.done {v : Value} (hr : ∀ a W, EOk n env a → Stab own X W → (results fn a.tmps).run P W = .ok v W) (hΦ : Φ v X) (hM : Marks n w0) : T ro P n w0 X0 (bodyQ P fn (Fin w0.w X0 Φ)) [] none env own X :=
  fun a _ ha hs => leave_all hM ha hs (fun _ h => hr a _ ha h) fun _ h1 h2 => ⟨v, X, rfl, h1, h2, hs.old, hΦ⟩
/-- The return of a function of which something is said that speaks of the world. -/
theorem T.retR {R : Ending → World → Prop} {v : Value} {k : List It} (hr : ∀ a W, EOk n env a → Stab own X W → (results fn a.tmps).run P W = .ok v W) (hR : ∀ W', Below w0.heap.size w0.w W' → PIn X W' → R (.returned v) W') (hM : Marks n w0) : T ro P n w0 X0 (bodyQ P fn R) (.code .ret :: k) none env own X :=
  fun a _ ha hs => runL_ret (leave_all hM ha hs (fun _ h => hr a _ ha h) hR)
theorem T.doneR {R : Ending → World → Prop} {v : Value} (hr : ∀ a W, EOk n env a → Stab own X W → (results fn a.tmps).run P W = .ok v W) (hR : ∀ W', Below w0.heap.size w0.w W' → PIn X W' → R (.returned v) W') (hM : Marks n w0) : T ro P n w0 X0 (bodyQ P fn R) [] none env own X :=
  fun a _ ha hs => leave_all hM ha hs (fun _ h => hr a _ ha h) hR
theorem T.done0 {R : Ending → World → Prop} (hr : fn.results = #[]) (hR : ∀ W', Below w0.heap.size w0.w W' → PIn X W' → R (.returned (.tuple #[])) W') (hM : Marks n w0 := by first | exact ⟨[], rfl, rfl, .nil⟩ | exact ⟨[_], rfl, rfl, by simp⟩) : T ro P n w0 X0 (bodyQ P fn R) [] none env own X := T.doneR (fun _ _ _ _ => run_results0 hr) hR hM
theorem T.ret1 {k : List It} {r : ResultVar} {v : Value} (hr : fn.results = #[r]) (h : ResIs P env own r v) (hΦ : Φ v X) (hM : Marks n w0 := by first | exact ⟨[], rfl, rfl, .nil⟩ | exact ⟨[_], rfl, rfl, by simp⟩) : T ro P n w0 X0 (bodyQ P fn (Fin w0.w X0 Φ)) (.code .ret :: k) none env own X := T.ret (fun _ _ ha hs => run_results1 hr h ha hs) hΦ hM
theorem T.ret2 {k : List It} {r r' : ResultVar} {v v' : Value} (hr : fn.results = #[r, r']) (h : ResIs P env own r v) (h' : ResIs P env own r' v') (hΦ : Φ (.tuple #[v, v']) X) (hM : Marks n w0 := by first | exact ⟨[], rfl, rfl, .nil⟩ | exact ⟨[_], rfl, rfl, by simp⟩) : T ro P n w0 X0 (bodyQ P fn (Fin w0.w X0 Φ)) (.code .ret :: k) none env own X := T.ret (fun _ _ ha hs => run_results2 hr h h' ha hs) hΦ hM
theorem T.ret3 {k : List It} {t t' t'' : Tmp} {v v' v'' : Value} (hr : fn.results = #[.tmp t, .tmp t', .tmp t'']) (h : eget env t = some v) (h' : eget env t' = some v') (h'' : eget env t'' = some v'') (hΦ : Φ (.tuple #[v, v', v'']) X) (hM : Marks n w0 := by first | exact ⟨[], rfl, rfl, .nil⟩ | exact ⟨[_], rfl, rfl, by simp⟩) : T ro P n w0 X0 (bodyQ P fn (Fin w0.w X0 Φ)) (.code .ret :: k) none env own X := T.ret (fun _ _ ha _ => run_results3 hr h h' h'' ha) hΦ hM

/-- An own block is made public: it will not change any more. -/
def PMap.add (X : PMap) (b : Nat) (o : Obj) : PMap := fun k => if k = b then some o else X k
/-- In the map: block b holds these cells first. -/
def Blk (X : PMap) (b : Nat) (cs : List Value) : Prop := ∃ (rest : List Value) (ty : TypeId) (fr : Nat × Nat), X b = some (.cells (cs ++ rest).toArray ty fr)
theorem Blk.mono {X X' : PMap} {b : Nat} {cs : List Value} (h : Blk X b cs) (hX : X.le X') : Blk X' b cs := let ⟨r, t, f, hr⟩ := h; ⟨r, t, f, hX _ _ hr⟩
theorem SatC.pub {w0 : World} {W : World} (h : SatC w0 X0 own X W) {b : Nat} {cs : List Value} {ty : TypeId} {sz j : Nat} (hj : AtO own b cs ty sz j) : ∃ X', X.le X' ∧ Blk X' b cs ∧ (∀ k, k ≠ b → X' k = X k) ∧ SatC w0 X0 (own.eraseIdx j) X' W := by
  have hm := hj.mem
  obtain ⟨r, hr, _⟩ := h.stab.own _ hm
  have hXb := h.apart _ hm
  have hjl : j < own.length := by
    have := hj.get
    rcases Nat.lt_or_ge j own.length with h1 | h1
    · exact h1
    · rw [List.getElem?_eq_none h1] at this; cases this
  have hjv : own[j] = ⟨b, cs, ty, sz⟩ := by have := hj.get; rw [List.getElem?_eq_getElem hjl] at this; exact Option.some.inj this
  have hsub : ∀ q ∈ own.eraseIdx j, q ∈ own ∧ q.b ≠ b := fun q hq => by
    refine ⟨List.mem_of_mem_eraseIdx hq, ?_⟩
    obtain ⟨k, hk, hkj, rfl⟩ := List.mem_eraseIdx_iff_getElem.1 hq
    have hp := List.pairwise_iff_getElem.1 h.nodup
    rcases Nat.lt_or_gt_of_ne hkj with hlt | hgt
    · have := hp k j hk hjl hlt; rw [hjv] at this; exact this
    · have := hp j k hjl hk hgt; rw [hjv] at this; exact fun e => this e.symm
  refine ⟨X.add b (.cells (cs ++ r).toArray ty (0, 0)), fun k o hk => ?_, ⟨r, ty, (0, 0), by simp [PMap.add]⟩, fun k hk => by simp [PMap.add, hk], h.below, fun k hk => ?_, ⟨fun q hq => h.stab.own q (hsub q hq).1, fun k o hk => ?_⟩, fun q hq => h.new q (hsub q hq).1, fun q hq => ?_, ?_⟩
  · unfold PMap.add
    split
    · rename_i e; subst e; rw [hXb] at hk; cases hk
    · exact hk
  · have hne : k ≠ b := fun e => by have := h.new _ hm; simp only at this; omega
    simp only [PMap.add, if_neg hne]
    exact h.old k hk
  · unfold PMap.add at hk
    split at hk
    · rename_i e; subst e; cases hk; exact hr
    · exact h.stab.pers k o hk
  · simp only [PMap.add, if_neg (hsub q hq).2]
    exact h.apart q (hsub q hq).1
  · exact h.nodup.sublist (List.eraseIdx_sublist ..)
theorem Sat.pub {W : World} (h : Sat w0 X0 own X W) {b : Nat} {cs : List Value} {ty : TypeId} {sz j : Nat} (hj : AtO own b cs ty sz j) : ∃ X', X.le X' ∧ Blk X' b cs ∧ (∀ k, k ≠ b → X' k = X k) ∧ Sat w0 X0 (own.eraseIdx j) X' W := by
  obtain ⟨X', h1, h2, h3, h4⟩ := h.toSatC.pub hj
  refine ⟨X', h1, h2, h3, h4, fun p hp => ?_⟩
  obtain ⟨g1, g2, g3, g4⟩ := h.res p hp
  exact ⟨g1, (h3 _ (fun e => g3 _ hj.mem e.symm)).trans g2, fun q hq => g3 q (List.mem_of_mem_eraseIdx hq), g4⟩
theorem T.pubAt {Q : Exit → Act → World → Prop} {ops : Array Oper} {l : List Oper} (b : Nat) {cs : List Value} {ty : TypeId} {sz j : Nat} (hj : AtO own b cs ty sz j)
    (h : ∀ X', X.le X' → Blk X' b cs → (∀ k, k ≠ b → X' k = X k) → SL ro P n w0 X0 ops Q l env (own.eraseIdx j) X') : SL ro P n w0 X0 ops Q l env own X := by
  intro a W ha hs
  obtain ⟨X', h1, h2, h3, h4⟩ := hs.pub hj
  exact h X' h1 h2 h3 a W ha h4
theorem SD.pub {Q : Exit → Act → World → Prop} {ops : Array Oper} {nh : Nat} {st : Option Nat} {ownS : Own} {XS : PMap} {pl : List Pl} (b : Nat) {cs : List Value} {ty : TypeId} {sz j : Nat} (hj : AtO own b cs ty sz j)
    (h : ∀ X', X.le X' → Blk X' b cs → (∀ k, k ≠ b → X' k = X k) → SD ro P n w0 X0 ops Q nh st ownS XS pl env (own.eraseIdx j) X') : SD ro P n w0 X0 ops Q nh st ownS XS pl env own X := by
  intro listed a W hns hnd ht inv hp ha hs hst
  obtain ⟨X', h1, h2, h3, h4⟩ := hs.pub hj
  exact h X' h1 h2 h3 listed a W hns hnd ht inv hp ha h4 hst
theorem T.pub {Q : Exit → Act → World → Prop} {k : List It} {e : Option Nat} (b : Nat) {cs : List Value} {ty : TypeId} {sz j : Nat} (hj : AtO own b cs ty sz j)
    (h : ∀ X', X.le X' → Blk X' b cs → (∀ k, k ≠ b → X' k = X k) → T ro P n w0 X0 Q k e env (own.eraseIdx j) X') : T ro P n w0 X0 Q k e env own X := by
  intro a W ha hs
  obtain ⟨X', h1, h2, h3, h4⟩ := hs.pub hj
  exact h X' h1 h2 h3 a W ha h4
end
end Go.Proofs.YtmfiencoefbjfaaGreatDoor
namespace Go.Proofs.YtmfiencoefbjfaaGreatDoor
open Go.RowKit
section
variable {P : Program} {n : NM} {w0 : Base} {X0 X : PMap} {own : Own} {env : Env}
theorem op_move {x : Operand} {v : Value} (hx : eev env x = some v) : OpY P n env own X (.move x) v := by
  intro a W oper ho ha _
  simp [execOp, ho, ha.eval hx]
theorem op_assign {x : Operand} {v : Value} (hx : eev env x = some v) : OpY P n env own X (.assign x) v := by
  intro a W oper ho ha _
  simp [execOp, ho, ha.eval hx]
theorem op_pickT {c x y : Operand} {v : Value} (hc : eev env c = some (.bool true)) (hx : eev env x = some v) : OpY P n env own X (.pick c x y) v := by
  intro a W oper ho ha _
  simp [execOp, ho, ha.eval hc, ha.eval hx, asBool]
theorem op_pickF {c x y : Operand} {v : Value} (hc : eev env c = some (.bool false)) (hy : eev env y = some v) : OpY P n env own X (.pick c x y) v := by
  intro a W oper ho ha _
  simp [execOp, ho, ha.eval hc, ha.eval hy, asBool]
theorem op_extract {x : Operand} {i : Nat} {vs : Array Value} {v : Value} (hx : eev env x = some (.tuple vs)) (hi : vs[i]? = some v) : OpY P n env own X (.extract x i) v := by
  intro a W oper ho ha _
  simp [execOp, ho, ha.eval hx, Instr.extract, hi]
theorem op_not {x : Operand} {ty : TypeId} {b : Bool} (hx : eev env x = some (.bool b)) : OpY P n env own X (.unOp .not ty x) (.bool (!b)) := by
  intro a W oper ho ha _
  simp [execOp, ho, ha.eval hx, Op.unary]
theorem op_nil {x : Operand} {a0 : Addr} (hx : eev env x = some (.pointer (some a0))) : OpY P n env own X (.nilCheck x) (.pointer (some a0)) := by
  intro a W oper ho ha _
  simp [execOp, ho, ha.eval hx]
theorem op_makeFunc {fn : Fn} {fs cs : Array Operand} {vs us : List Value} (hf : fs.toList.map (eev env) = vs.map some) (hc : cs.toList.map (eev env) = us.map some) : OpY P n env own X (.makeFunc fn fs cs) (.func fn vs.toArray us.toArray) := by
  intro a W oper ho ha _
  have all : ∀ (xs : List Operand) (vs : List Value), xs.map (eev env) = vs.map some → xs.map a.eval = vs := by
    intro xs
    induction xs with
    | nil => intro vs h; cases vs <;> simp_all
    | cons x xs ih =>
      intro vs h
      cases vs with
      | nil => simp at h
      | cons v vs =>
        simp only [List.map_cons, List.cons.injEq] at h
        simp [ha.eval h.1, ih vs h.2]
  have h1 : fs.map a.eval = vs.toArray := by apply Array.toList_inj.1; simp [all _ _ hf]
  have h2 : cs.map a.eval = us.toArray := by apply Array.toList_inj.1; simp [all _ _ hc]
  simp [execOp, ho, Instr.makeFunc, h1, h2]

section
variable {t t' : TypeId} {x y : Operand} {k : IntKind} {p q : Int}
theorem op_cmp {op : BinOp} {b : Bool} (hx : eev env x = some (.int k p)) (hy : eev env y = some (.int k q)) (hb : Op.intCmp op p q = pure (.bool b)) (ho : op = .lss ∨ op = .leq ∨ op = .gtr ∨ op = .geq ∨ op = .eql ∨ op = .neq) : OpY P n env own X (.binOp op t x y t') (.bool b) := by
  intro a W oper hop ha _
  rcases ho with rfl | rfl | rfl | rfl | rfl | rfl <;> simp [execOp, hop, ha.eval hx, ha.eval hy, binOp, hb, eqGuard]
theorem op_lss (hx : eev env x = some (.int k p)) (hy : eev env y = some (.int k q)) : OpY P n env own X (.binOp .lss t x y t') (.bool (decide (p < q))) := op_cmp hx hy rfl (by simp)
theorem op_lssT (hx : eev env x = some (.int k p)) (hy : eev env y = some (.int k q)) (h : p < q) : OpY P n env own X (.binOp .lss t x y t') (.bool true) := by have := op_lss (P := P) (n := n) (own := own) (X := X) (t := t) (t' := t') hx hy; rwa [decide_eq_true h] at this
theorem op_lssF (hx : eev env x = some (.int k p)) (hy : eev env y = some (.int k q)) (h : q ≤ p) : OpY P n env own X (.binOp .lss t x y t') (.bool false) := by have := op_lss (P := P) (n := n) (own := own) (X := X) (t := t) (t' := t') hx hy; rwa [decide_eq_false (by omega)] at this
theorem op_leq (hx : eev env x = some (.int k p)) (hy : eev env y = some (.int k q)) : OpY P n env own X (.binOp .leq t x y t') (.bool (decide (p ≤ q))) := op_cmp hx hy rfl (by simp)
theorem op_leqT (hx : eev env x = some (.int k p)) (hy : eev env y = some (.int k q)) (h : p ≤ q) : OpY P n env own X (.binOp .leq t x y t') (.bool true) := by have := op_leq (P := P) (n := n) (own := own) (X := X) (t := t) (t' := t') hx hy; rwa [decide_eq_true h] at this
theorem op_leqF (hx : eev env x = some (.int k p)) (hy : eev env y = some (.int k q)) (h : q < p) : OpY P n env own X (.binOp .leq t x y t') (.bool false) := by have := op_leq (P := P) (n := n) (own := own) (X := X) (t := t) (t' := t') hx hy; rwa [decide_eq_false (by omega)] at this
theorem op_gtr (hx : eev env x = some (.int k p)) (hy : eev env y = some (.int k q)) : OpY P n env own X (.binOp .gtr t x y t') (.bool (decide (q < p))) := op_cmp hx hy rfl (by simp)
theorem op_gtrT (hx : eev env x = some (.int k p)) (hy : eev env y = some (.int k q)) (h : q < p) : OpY P n env own X (.binOp .gtr t x y t') (.bool true) := by have := op_gtr (P := P) (n := n) (own := own) (X := X) (t := t) (t' := t') hx hy; rwa [decide_eq_true h] at this
theorem op_gtrF (hx : eev env x = some (.int k p)) (hy : eev env y = some (.int k q)) (h : p ≤ q) : OpY P n env own X (.binOp .gtr t x y t') (.bool false) := by have := op_gtr (P := P) (n := n) (own := own) (X := X) (t := t) (t' := t') hx hy; rwa [decide_eq_false (by omega)] at this
theorem op_geq (hx : eev env x = some (.int k p)) (hy : eev env y = some (.int k q)) : OpY P n env own X (.binOp .geq t x y t') (.bool (decide (q ≤ p))) := op_cmp hx hy rfl (by simp)
theorem op_geqT (hx : eev env x = some (.int k p)) (hy : eev env y = some (.int k q)) (h : q ≤ p) : OpY P n env own X (.binOp .geq t x y t') (.bool true) := by have := op_geq (P := P) (n := n) (own := own) (X := X) (t := t) (t' := t') hx hy; rwa [decide_eq_true h] at this
theorem op_geqF (hx : eev env x = some (.int k p)) (hy : eev env y = some (.int k q)) (h : p < q) : OpY P n env own X (.binOp .geq t x y t') (.bool false) := by have := op_geq (P := P) (n := n) (own := own) (X := X) (t := t) (t' := t') hx hy; rwa [decide_eq_false (by omega)] at this
theorem op_eql (hx : eev env x = some (.int k p)) (hy : eev env y = some (.int k q)) : OpY P n env own X (.binOp .eql t x y t') (.bool (decide (p = q))) := op_cmp hx hy (by simp [Op.intCmp]; rfl) (by simp)
theorem op_eqlT (hx : eev env x = some (.int k p)) (hy : eev env y = some (.int k q)) (h : p = q) : OpY P n env own X (.binOp .eql t x y t') (.bool true) := by have := op_eql (P := P) (n := n) (own := own) (X := X) (t := t) (t' := t') hx hy; rwa [decide_eq_true h] at this
theorem op_eqlF (hx : eev env x = some (.int k p)) (hy : eev env y = some (.int k q)) (h : p ≠ q) : OpY P n env own X (.binOp .eql t x y t') (.bool false) := by have := op_eql (P := P) (n := n) (own := own) (X := X) (t := t) (t' := t') hx hy; rwa [decide_eq_false h] at this
theorem op_neq (hx : eev env x = some (.int k p)) (hy : eev env y = some (.int k q)) : OpY P n env own X (.binOp .neq t x y t') (.bool (decide (p ≠ q))) := op_cmp hx hy (by simp [Op.intCmp, bne]; rfl) (by simp)
theorem op_neqT (hx : eev env x = some (.int k p)) (hy : eev env y = some (.int k q)) (h : p ≠ q) : OpY P n env own X (.binOp .neq t x y t') (.bool true) := by have := op_neq (P := P) (n := n) (own := own) (X := X) (t := t) (t' := t') hx hy; rwa [decide_eq_true h] at this
theorem op_neqF (hx : eev env x = some (.int k p)) (hy : eev env y = some (.int k q)) (h : p = q) : OpY P n env own X (.binOp .neq t x y t') (.bool false) := by have := op_neq (P := P) (n := n) (own := own) (X := X) (t := t) (t' := t') hx hy; rwa [decide_eq_false (by simpa using h)] at this
theorem run_equalB {b c : Bool} (ht : P.underlying t = some .bool) (W : World) : (Op.equal t (.bool b) (.bool c)).run P W = .ok (b == c) W := by
  have h : ∀ d : Nat, (Op.equalIn (d + 1) t (.bool b) (.bool c)).run P W = .ok (b == c) W := fun d => by
    simp [Op.equalIn, run_underlying ht]
  exact h 9999
theorem op_eqlB {b c : Bool} (ht : P.underlying t = some .bool) (hx : eev env x = some (.bool b)) (hy : eev env y = some (.bool c)) : OpY P n env own X (.binOp .eql t x y t') (.bool (b == c)) := by
  intro a W oper hop ha _
  have h0 : ∀ (e : BinOp) (u v : Operand), eqGuard e t u v (.bool b) (.bool c) = pure () := fun e u v => by cases e <;> rfl
  simp only [execOp, hop, ha.eval hx, ha.eval hy, binOp, h0, Sem.run_bind, Sem.run_pure, Result.andThen_ok, run_equalB ht]
/-- A pointer, a slice held against nil. -/
theorem run_equalPtrNil {e : TypeId} (ht : P.underlying t = some (.pointer e)) (o : Option Addr) (W : World) : (Op.equal t (.pointer o) (.pointer none)).run P W = .ok o.isNone W := by
  have h : ∀ d : Nat, (Op.equalIn (d + 1) t (.pointer o) (.pointer none)).run P W = .ok o.isNone W := fun d => by
    cases o <;> simp [Op.equalIn, run_underlying ht]
  exact h 9999
theorem op_eqlNil {e : TypeId} {o : Option Addr} (ht : P.underlying t = some (.pointer e)) (hx : eev env x = some (.pointer o)) (hy : eev env y = some (.pointer none)) : OpY P n env own X (.binOp .eql t x y t') (.bool o.isNone) := by
  intro a W oper hop ha _
  have h0 : ∀ (e : BinOp) (u v : Operand), eqGuard e t u v (.pointer o) (.pointer none) = pure () := fun e u v => by cases e <;> rfl
  simp only [execOp, hop, ha.eval hx, ha.eval hy, binOp, h0, Sem.run_bind, Sem.run_pure, Result.andThen_ok, run_equalPtrNil ht]
theorem op_neqNil {e : TypeId} {o : Option Addr} (ht : P.underlying t = some (.pointer e)) (hx : eev env x = some (.pointer o)) (hy : eev env y = some (.pointer none)) : OpY P n env own X (.binOp .neq t x y t') (.bool (!o.isNone)) := by
  intro a W oper hop ha _
  have h0 : ∀ (e : BinOp) (u v : Operand), eqGuard e t u v (.pointer o) (.pointer none) = pure () := fun e u v => by cases e <;> rfl
  simp only [execOp, hop, ha.eval hx, ha.eval hy, binOp, h0, Sem.run_bind, Sem.run_pure, Result.andThen_ok, run_equalPtrNil ht]
theorem run_equalSliceNil {e : TypeId} (ht : P.underlying t = some (.slice e)) (o : Option Addr) (l c l' c' : Nat) (W : World) : (Op.equal t (.slice o l c) (.slice none l' c')).run P W = .ok o.isNone W := by
  have h : ∀ d : Nat, (Op.equalIn (d + 1) t (.slice o l c) (.slice none l' c')).run P W = .ok o.isNone W := fun d => by
    cases o <;> simp [Op.equalIn, run_underlying ht]
  exact h 9999
theorem op_eqlSNil {e : TypeId} {o : Option Addr} {l c l' c' : Nat} (ht : P.underlying t = some (.slice e)) (hx : eev env x = some (.slice o l c)) (hy : eev env y = some (.slice none l' c')) : OpY P n env own X (.binOp .eql t x y t') (.bool o.isNone) := by
  intro a W oper hop ha _
  have h0 : ∀ (e : BinOp) (u v : Operand), eqGuard e t u v (.slice o l c) (.slice none l' c') = pure () := fun e u v => by cases e <;> rfl
  simp only [execOp, hop, ha.eval hx, ha.eval hy, binOp, h0, Sem.run_bind, Sem.run_pure, Result.andThen_ok, run_equalSliceNil ht]

theorem op_arith {op : BinOp} {r : Int} (hx : eev env x = some (.int k p)) (hy : eev env y = some (.int k q)) (ho : op = .add ∧ r = p + q ∨ op = .sub ∧ r = p - q ∨ op = .mul ∧ r = p * q) : OpY P n env own X (.binOp op t x y t') (.int k (k.wrap r)) := by
  intro a W oper hop ha _
  rcases ho with ⟨rfl, rfl⟩ | ⟨rfl, rfl⟩ | ⟨rfl, rfl⟩ <;> simp [execOp, hop, ha.eval hx, ha.eval hy, binOp, eqGuard, Op.intArith]
theorem op_addW (hx : eev env x = some (.int k p)) (hy : eev env y = some (.int k q)) : OpY P n env own X (.binOp .add t x y t') (.int k (k.wrap (p + q))) := op_arith hx hy (by simp)
theorem op_subW (hx : eev env x = some (.int k p)) (hy : eev env y = some (.int k q)) : OpY P n env own X (.binOp .sub t x y t') (.int k (k.wrap (p - q))) := op_arith hx hy (by simp)
theorem op_mulW (hx : eev env x = some (.int k p)) (hy : eev env y = some (.int k q)) : OpY P n env own X (.binOp .mul t x y t') (.int k (k.wrap (p * q))) := op_arith hx hy (by simp)
theorem wrap_i64_in {r : Int} (h1 : -9223372036854775808 ≤ r) (h2 : r ≤ 9223372036854775807) : IntKind.i64.wrap r = r := IntWalk.i64_in r ⟨h1, h2⟩
theorem op_add (hx : eev env x = some (.int .i64 p)) (hy : eev env y = some (.int .i64 q)) (h1 : -9223372036854775808 ≤ p + q) (h2 : p + q ≤ 9223372036854775807) : OpY P n env own X (.binOp .add t x y t') (.int .i64 (p + q)) := by
  have := op_addW (P := P) (n := n) (own := own) (X := X) (t := t) (t' := t') hx hy; rwa [wrap_i64_in h1 h2] at this
theorem op_sub (hx : eev env x = some (.int .i64 p)) (hy : eev env y = some (.int .i64 q)) (h1 : -9223372036854775808 ≤ p - q) (h2 : p - q ≤ 9223372036854775807) : OpY P n env own X (.binOp .sub t x y t') (.int .i64 (p - q)) := by
  have := op_subW (P := P) (n := n) (own := own) (X := X) (t := t) (t' := t') hx hy; rwa [wrap_i64_in h1 h2] at this
theorem op_mul (hx : eev env x = some (.int .i64 p)) (hy : eev env y = some (.int .i64 q)) (h1 : -9223372036854775808 ≤ p * q) (h2 : p * q ≤ 9223372036854775807) : OpY P n env own X (.binOp .mul t x y t') (.int .i64 (p * q)) := by
  have := op_mulW (P := P) (n := n) (own := own) (X := X) (t := t) (t' := t') hx hy; rwa [wrap_i64_in h1 h2] at this
theorem op_quo (hx : eev env x = some (.int .i64 p)) (hy : eev env y = some (.int .i64 q)) (h0 : 0 ≤ p) (h1 : p ≤ 9223372036854775807) (hq : 0 < q) : OpY P n env own X (.binOp .quo t x y t') (.int .i64 (p / q)) := by
  intro a W oper hop ha _
  have e : p.tdiv q = p / q := Int.tdiv_eq_ediv_of_nonneg h0
  have hl : p / q ≤ p := Int.ediv_le_self _ h0
  have h3 : 0 ≤ p / q := Int.ediv_nonneg h0 (by omega)
  simp [execOp, hop, ha.eval hx, ha.eval hy, binOp, eqGuard, Op.intDiv, show q ≠ 0 by omega, e, wrap_i64_in (show -9223372036854775808 ≤ p / q by omega) (by omega)]
theorem op_rem (hx : eev env x = some (.int k p)) (hy : eev env y = some (.int k q)) (h0 : 0 ≤ p) (hq : q ≠ 0) : OpY P n env own X (.binOp .rem t x y t') (.int k (p % q)) := by
  intro a W oper hop ha _
  have e : p.tmod q = p % q := Int.tmod_eq_emod_of_nonneg h0
  simp [execOp, hop, ha.eval hx, ha.eval hy, binOp, eqGuard, Op.intDiv, hq, e]
end
end
end Go.Proofs.YtmfiencoefbjfaaGreatDoor
namespace Go.Proofs.YtmfiencoefbjfaaGreatDoor
open Go.RowKit
section
variable {P : Program} {n : NM} {w0 : Base} {X0 X : PMap} {own : Own} {env : Env}
theorem execLoad {t : TypeId} {x : Operand} {b i : Nat} {v : Value} {a : Act} {W : World} {oper : Oper} (ho : oper.op = .load t x) (hx : a.eval x = .pointer (some ⟨b, i, none⟩)) (h : (loadVar t ⟨b, i, none⟩).run P W = .ok v W) : (execOp a.eval oper).run P W = .ok (.value v) W := by
  simp [execOp, ho, hx, Instr.loadAt, Instr.sureAddr, h]
theorem op_load {t : TypeId} {x : Operand} {b i j sz size : Nat} {row : Bool} {cs : List Value} {ty : TypeId} {v : Value} (ht : Ty P t row size) (hx : eev env x = some (.pointer (some ⟨b, i, none⟩))) (ho : AtO own b cs ty sz j) (hv : cread row size cs i = some v) : OpY P n env own X (.load t x) v := by
  intro a W oper hop ha hs
  exact execLoad hop (ha.eval hx) (run_loadVar_cells ht (fun _ _ hu => (hs.own _ ho.mem).cell hu) hv)
theorem Blk.cell {b : Nat} {cs : List Value} {W : World} (h : Blk X b cs) (hp : PIn X W) {i : Nat} {v : Value} (hi : cs[i]? = some v) : W.cell? ⟨b, i, none⟩ = some v := by
  obtain ⟨r, _, _, h⟩ := h
  have h := hp _ _ h
  have hl : i < cs.length := by
    rcases Nat.lt_or_ge i cs.length with h1 | h1
    · exact h1
    · rw [List.getElem?_eq_none h1] at hi; cases hi
  simp [World.cell?, h, List.getElem?_append_left hl, hi]
theorem op_loadX {t : TypeId} {x : Operand} {b i size : Nat} {row : Bool} {cs : List Value} {v : Value} (ht : Ty P t row size) (hx : eev env x = some (.pointer (some ⟨b, i, none⟩))) (ho : Blk X b cs) (hv : cread row size cs i = some v) : OpY P n env own X (.load t x) v := by
  intro a W oper hop ha hs
  exact execLoad hop (ha.eval hx) (run_loadVar_cells ht (fun _ _ hu => ho.cell hs.pers hu) hv)

def vcells : Value → List Value
  | .agg cs => cs.toList
  | v => [v]
theorem vcells_spec (v : Value) : v.cells.toList = vcells v := by cases v <;> rfl
theorem op_new {oper : Oper} {a : Act} {W : World} {K : Act → World → Prop} {Q : Exit → Act → World → Prop} {ro : Option Nat} (hnd : ∀ c, oper.op ≠ .defer c) (hs : Sat w0 X0 own X W) {cs : List Value} {ty : TypeId} {v : Value}
    (hr : (execOp a.eval oper).run P W = .ok (.value v) (W.alloc (.cells cs.toArray ty)))
    {k : Value → Own → PMap → Prop} (hk : k v (⟨W.heap.size, cs, ty, cs.length⟩ :: own) X)
    (hK : ∀ v own' X' W', k v own' X' → Sat w0 X0 own' X' W' → (true = true → Grow W W') → K (a.put oper.dst v) W') : oper.wpIn (FR ro) DEP P a W K Q :=
  wp_value hnd hr (hK v _ X _ hk (hs.alloc cs ty) fun _ => Grow.alloc W _)
theorem op_box {t : TypeId} {x : Operand} {v : Value} (hx : eev env x = some v) :
    OpX P n w0 X0 env own X (.box t x) true fun u own' X' => ∃ b, u = .pointer (some ⟨b, 0, none⟩) ∧ own' = ⟨b, vcells v, t, (vcells v).length⟩ :: own ∧ X = X' := by
  intro a W oper K Q ro hop ha hs hK
  refine op_new (noDefer_spec (by rw [hop]; rfl)) hs (cs := vcells v) (ty := t) (v := .pointer (some ⟨W.heap.size, 0, none⟩)) ?_ ⟨_, rfl, rfl, rfl⟩ hK
  have : v.cells = (vcells v).toArray := by rw [← vcells_spec]
  simp [execOp, hop, ha.eval hx, Instr.box, newVar, newRow, this, newObj, Sem.run, World.alloc_eq]
/-- The zero value of a type, as cells. -/
structure Zero (P : Program) (t : TypeId) (zs : List Value) : Prop where
  out : ∃ i z, P.info? t = some i ∧ i.zero = some z ∧ z.cells = zs.toArray
theorem Zero.run {t : TypeId} {zs : List Value} (h : Zero P t zs) : ∃ z, z.cells = zs.toArray ∧ ∀ W, (zeroValue t).run P W = .ok z W := by
  obtain ⟨i, z, hi, hz, hc⟩ := h.out
  exact ⟨z, hc, fun W => by simp [zeroValue, typeInfo, hi, hz]⟩
theorem op_alloc {t : TypeId} {zs : List Value} (hz : Zero P t zs) :
    OpX P n w0 X0 env own X (.alloc t) true fun u own' X' => ∃ b, u = .pointer (some ⟨b, 0, none⟩) ∧ own' = ⟨b, zs, t, zs.length⟩ :: own ∧ X = X' := by
  intro a W oper K Q ro hop ha hs hK
  obtain ⟨z, hc, hr⟩ := hz.run
  refine op_new (noDefer_spec (by rw [hop]; rfl)) hs (cs := zs) (ty := t) (v := .pointer (some ⟨W.heap.size, 0, none⟩)) ?_ ⟨_, rfl, rfl, rfl⟩ hK
  simp [execOp, hop, Instr.alloc, hr, newVar, newRow, hc, newObj, Sem.run, World.alloc_eq]

theorem op_store {t : TypeId} {x y : Operand} {b i j sz size : Nat} {row : Bool} {cs : List Value} {ty : TypeId} {v : Value} (ht : Ty P t row size) (hx : eev env x = some (.pointer (some ⟨b, i, none⟩))) (hy : eev env y = some v) (ho : AtO own b cs ty sz j)
    (h1 : (vcells v).all (·.oneCell') = true) (hl : (vcells v).length = size) (hi : Nat.ble (i + size) cs.length = true) :
    OpX P n w0 X0 env own X (.store t x y) false fun _ own' X' => own' = own.set j ⟨b, csets cs i (vcells v), ty, sz⟩ ∧ X = X' := by
  intro a W oper K Q ro hop ha hs hK
  have hle : i + size ≤ cs.length := Nat.le_of_ble_eq_true hi
  have hin := hs.stab.own _ ho.mem
  have hrun : (storeVar t ⟨b, i, none⟩ v).run P W = .ok () (W.setCells b i (vcells v)) := by
    have ht' : W.there b i (vcells v).length := fun q hq => by
      have hlt : i + q < cs.length := by omega
      exact ⟨by rw [hin.cell (v := cs[i + q]) (by simp [hlt])]; rfl, hin.frozen _⟩
    have := run_storeCells_cells (P := P) b i (vcells v) 0 W (fun q hq => (ht' q hq).1) (fun q hq => (ht' q hq).2) (fun u hu => List.all_eq_true.1 h1 u hu)
    have hinf := ht.info
    cases hq : P.info? t with
    | none => simp [hq] at hinf
    | some inf =>
      have hsz : inf.size = size := by simpa [hq] using hinf
      have hcl : v.cells.toList = vcells v := vcells_spec v
      have hcs : v.cells.size = size := by rw [← Array.length_toList, hcl, hl]
      simp only [Nat.add_zero] at this
      simp [storeVar, sizeOf, typeInfo, hq, hcs, hsz, hcl, this]
  have hex : (execOp a.eval oper).run P W = .ok .skip (W.setCells b i (vcells v)) := by
    simp [execOp, hop, ha.eval hx, ha.eval hy, Instr.storeAt, Instr.sureAddr, hrun]
  exact wp_skipped (noDefer_spec (by rw [hop]; rfl)) hex (hK undef _ X _ ⟨rfl, rfl⟩ (hs.puts _ _ _ _ _ ho.get (by omega)) (fun h => by cases h))

/-- Field f of struct s lies at offset off. -/
structure FAdr (P : Program) (s : TypeId) (f off : Nat) : Prop where
  out : ∃ (fields : Array Field) (fl : Field) (i : TypeInfo), P.underlying s = some (.struct fields) ∧ fields[f]? = some fl ∧ fl.offset = off ∧ P.info? fl.type = some i ∧ i.size ≠ 0
theorem op_fieldAddr {s : TypeId} {x : Operand} {f off b i : Nat} (hf : FAdr P s f off) (hx : eev env x = some (.pointer (some ⟨b, i, none⟩))) : OpY P n env own X (.fieldAddr s x f) (.pointer (some ⟨b, i + off, none⟩)) := by
  intro a W oper hop ha _
  obtain ⟨fields, fl, inf, h1, h2, h3, h4, h5⟩ := hf.out
  simp [execOp, hop, ha.eval hx, Instr.fieldAt, run_underlying h1, h2, Instr.sureAddr, fieldPlace, sizeOf, typeInfo, h4, h5, h3, Addr.add_mid]
theorem op_index {t e : TypeId} {x ix : Operand} {b o len cap size : Nat} {row : Bool} {k : IntKind} {i : Int} (ht : P.underlying t = some (.slice e)) (he : Ty P e row size) (hx : eev env x = some (.slice (some ⟨b, o, none⟩) len cap)) (hi : eev env ix = some (.int k i)) (h0 : 0 ≤ i) (h1 : i < len) :
    OpY P n env own X (.indexAddr t x ix) (.pointer (some ⟨b, o + i.toNat * size, none⟩)) := by
  intro a W oper hop ha _
  have hinf := he.info
  cases hq : P.info? e with
  | none => simp [hq] at hinf
  | some inf =>
    have hsz : inf.size = size := by simpa [hq] using hinf
    simp [execOp, hop, ha.eval hx, ha.eval hi, Instr.indexAt, asIntOf, run_underlying ht, h0, h1, sizeOf, typeInfo, hq, hsz, Addr.add_mid]
theorem op_indexN {t e : TypeId} {x ix : Operand} {b o len cap size : Nat} {row : Bool} {k : IntKind} {i : Nat} (ht : P.underlying t = some (.slice e)) (he : Ty P e row size) (hx : eev env x = some (.slice (some ⟨b, o, none⟩) len cap)) (hi : eev env ix = some (.int k (i : Int))) (h1 : i < len) :
    OpY P n env own X (.indexAddr t x ix) (.pointer (some ⟨b, o + i * size, none⟩)) := by
  have := op_index (P := P) (n := n) (own := own) (X := X) ht he hx hi (by omega) (by omega)
  simpa using this

theorem op_lenS {t e : TypeId} {x : Operand} {o : Option Addr} {len cap : Nat} (ht : P.underlying t = some (.slice e)) (hx : eev env x = some (.slice o len cap)) : OpY P n env own X (.call { callee := .builtin .len, args := #[x], argTypes := #[t] }) (.int .i64 len) := by
  intro a W oper hop ha _
  simp [execOp, hop, resolve, invoke, builtin, Builtin.len_, run_underlying ht, ha.eval hx, goInt]
theorem op_lenStr {t : TypeId} {x : Operand} {s : ByteArray} (ht : P.underlying t = some .string) (hx : eev env x = some (.string s)) : OpY P n env own X (.call { callee := .builtin .len, args := #[x], argTypes := #[t] }) (.int .i64 s.size) := by
  intro a W oper hop ha _
  simp [execOp, hop, resolve, invoke, builtin, Builtin.len_, run_underlying ht, ha.eval hx, goInt]
theorem op_max {x y : Operand} {ts : Array TypeId} {k : IntKind} {p q r : Int} (hx : eev env x = some (.int k p)) (hy : eev env y = some (.int k q)) (hr : (if q > p then q else p) = r) : OpY P n env own X (.call { callee := .builtin .max, args := #[x, y], argTypes := ts }) (.int k r) := by
  intro a W oper hop ha _
  simp [execOp, hop, resolve, invoke, builtin, Builtin.max_, Builtin.max2, ha.eval hx, ha.eval hy, ← hr]
theorem op_min {x y : Operand} {ts : Array TypeId} {k : IntKind} {p q r : Int} (hx : eev env x = some (.int k p)) (hy : eev env y = some (.int k q)) (hr : (if q < p then q else p) = r) : OpY P n env own X (.call { callee := .builtin .min, args := #[x, y], argTypes := ts }) (.int k r) := by
  intro a W oper hop ha _
  simp [execOp, hop, resolve, invoke, builtin, Builtin.min_, Builtin.min2, ha.eval hx, ha.eval hy, ← hr]

def Enters (P : Program) (f : FuncId) : Prop := ∀ args W, (callFunc f args).run P W = .ok (.enter f args) W
theorem op_call {c : Operand} {f : FuncId} {xs : Array Operand} {ts : Array TypeId} {fs cs : Array Value} {vs : List Value} {Φ : Value → PMap → Prop} (he : Enters P f) (hc : eev env c = some (.func (.func f) fs cs)) (hx : xs.toList.map (eev env) = vs.map some)
    (h : Spec P f (fs.toList ++ vs ++ cs.toList) X Φ) : OpX P n w0 X0 env own X (.call { callee := .value c, args := xs, argTypes := ts }) true fun v own' X' => own = own' ∧ X.le X' ∧ Φ v X' := by
  intro a W oper K Q ro hop ha hs hK
  have all : ∀ (xs : List Operand) (vs : List Value), xs.map (eev env) = vs.map some → xs.map a.eval = vs := by
    intro xs
    induction xs with
    | nil => intro vs h; cases vs <;> simp_all
    | cons x xs ih =>
      intro vs h
      cases vs with
      | nil => simp at h
      | cons v vs =>
        simp only [List.map_cons, List.cons.injEq] at h
        simp [ha.eval h.1, ih vs h.2]
  have h1 : xs.map a.eval = vs.toArray := by apply Array.toList_inj.1; simp [all _ _ hx]
  have hex : (execOp a.eval oper).run P W = .ok (.enter f (fs.toList ++ vs ++ cs.toList).toArray) W := by
    have hargs : fs ++ vs.toArray ++ cs = (fs.toList ++ vs ++ cs.toList).toArray := by apply Array.toList_inj.1; simp
    simp only [execOp, hop, resolve, ha.eval hc, h1, Deferred.ofValue, invoke, Sem.run_bind, Sem.run_pure, Result.andThen_ok]
    rw [hargs]
    exact he _ _
  refine wp_enters (noDefer_spec (by rw [hop]; rfl)) hex ((h W hs.stab.pers).mono fun e w' hfin => ?_)
  obtain ⟨v, X', rfl, hb, hp, hk, hΦ⟩ := hfin
  refine ⟨v, rfl, ?_⟩
  exact hK v own X' w' ⟨rfl, fun q o hq => (hk q (hs.stab.pers.lt hq)).trans hq, hΦ⟩ (hs.call hb hp hk) fun _ => Grow.of_below hb
/-- A call of a function by its name. -/
theorem op_callF {f : FuncId} {xs : Array Operand} {ts : Array TypeId} {vs : List Value} {Φ : Value → PMap → Prop} (he : Enters P f) (hx : xs.toList.map (eev env) = vs.map some)
    (h : Spec P f vs X Φ) : OpX P n w0 X0 env own X (.call { callee := .value (.func f), args := xs, argTypes := ts }) true fun v own' X' => own = own' ∧ X.le X' ∧ Φ v X' :=
  op_call he rfl hx (by simpa using h)
end
end Go.Proofs.YtmfiencoefbjfaaGreatDoor
namespace Go.Proofs.YtmfiencoefbjfaaGreatDoor
open Go.RowKit
section
variable {P : Program} {n : NM} {w0 : Base} {X0 X : PMap} {own : Own} {env : Env}
/-- What is known of a slice's type: its element, the element's cells and bytes. -/
structure SlT (P : Program) (t e : TypeId) (size bytes : Nat) : Prop where
  und : P.underlying t = some (.slice e)
  info : ∃ i z, P.info? e = some i ∧ i.size = size ∧ i.bytes = bytes ∧ i.zero = some z ∧ z.cells.size = size ∧ 0 < size

/-- The slice value v has m elements, whose cells are news. -/
def Src (own : Own) (X : PMap) (v : Value) (m size : Nat) (news : List Value) : Prop :=
  news.length = m * size ∧ ∃ A c, v = .slice A m c ∧ (0 < m → ∃ b o, A = some ⟨b, o, none⟩ ∧ ∀ W, Stab own X W → ∀ j u, news[j]? = some u → W.cell? ⟨b, o + j, none⟩ = some u)
theorem Src.nil {A : Option Addr} {c size : Nat} : Src own X (.slice A 0 c) 0 size [] := ⟨by simp, A, c, rfl, fun h => absurd h (by omega)⟩
theorem Src.ofOwn0 {b m c size sz j : Nat} {cs : List Value} {ty : TypeId} (ho : AtO own b cs ty sz j) (hl : m * size = cs.length) : Src own X (.slice (some ⟨b, 0, none⟩) m c) m size cs :=
  ⟨hl.symm, _, _, rfl, fun _ => ⟨b, 0, rfl, fun W hW q u hu => by rw [Nat.zero_add]; exact (hW.own _ ho.mem).cell hu⟩⟩
theorem Src.ofExt {b o m c size : Nat} {cs : List Value} (ho : Blk X b cs) (hl : o + m * size ≤ cs.length) : Src own X (.slice (some ⟨b, o, none⟩) m c) m size ((cs.drop o).take (m * size)) := by
  refine ⟨by simp; omega, _, _, rfl, fun _ => ⟨b, o, rfl, fun W hW q u hu => ?_⟩⟩
  rw [List.getElem?_take] at hu
  split at hu
  · rw [List.getElem?_drop] at hu; exact ho.cell hW.pers hu
  · cases hu
theorem Src.ofExt0 {b m c size : Nat} {cs : List Value} (ho : Blk X b cs) (hl : m * size = cs.length) : Src own X (.slice (some ⟨b, 0, none⟩) m c) m size cs :=
  ⟨hl.symm, _, _, rfl, fun _ => ⟨b, 0, rfl, fun W hW q u hu => by rw [Nat.zero_add]; exact ho.cell hW.pers hu⟩⟩

/-- Only the block of row j may have changed, or a new one stands for it. -/
theorem SatC.regrow {w0 : World} {W W' : World} (h : SatC w0 X0 own X W) {b sz j : Nat} {cs : List Value} {ty : TypeId} (hj : own[j]? = some ⟨b, cs, ty, sz⟩) (hg : W.grownBy W' (some b)) {b' : Nat} (hb : b' = b ∨ b' = W.heap.size) {cs' : List Value} {ty' : TypeId} {sz' : Nat} (hin : Ow.In ⟨b', cs', ty', sz'⟩ W') :
    SatC w0 X0 (own.set j ⟨b', cs', ty', sz'⟩) X W' := by
  have hm : (⟨b, cs, ty, sz⟩ : Ow) ∈ own := List.mem_of_getElem? hj
  have hjl : j < own.length := by
    rcases Nat.lt_or_ge j own.length with h1 | h1
    · exact h1
    · rw [List.getElem?_eq_none h1] at hj; cases hj
  have hjv : own[j] = ⟨b, cs, ty, sz⟩ := by rw [List.getElem?_eq_getElem hjl] at hj; exact Option.some.inj hj
  have hb0 := h.new _ hm
  simp only at hb0
  have hother : ∀ k (hk : k < own.length), k ≠ j → own[k].b ≠ b := fun k hk hne => by
    have hp := List.pairwise_iff_getElem.1 h.nodup
    rcases Nat.lt_or_gt_of_ne hne with hlt | hgt
    · have := hp k j hk hjl hlt; rw [hjv] at this; exact this
    · have := hp j k hjl hk hgt; rw [hjv] at this; exact fun e => this e.symm
  have hnew : ∀ q ∈ own, q.b ≠ b → q.b ≠ b' := fun q hq hne => by
    rcases hb with rfl | rfl
    · exact hne
    · exact Nat.ne_of_lt (h.stab.own q hq).lt
  have hget : ∀ q ∈ own.set j ⟨b', cs', ty', sz'⟩, q = ⟨b', cs', ty', sz'⟩ ∨ (q ∈ own ∧ q.b ≠ b) := fun q hq => by
    obtain ⟨k, hk, rfl⟩ := List.getElem_of_mem hq
    have hk' : k < own.length := by simpa using hk
    by_cases e : j = k
    · subst e; left; simp
    · right
      rw [List.getElem_set_ne e]
      exact ⟨List.getElem_mem hk', hother k hk' (Ne.symm e)⟩
  have hXb' : X b' = none := by
    rcases hb with rfl | rfl
    · exact h.apart _ hm
    · exact h.stab.pers.fresh
  refine ⟨h.below.grown hg h.below.size (fun k e => by cases e; exact hb0), h.old, ⟨fun q hq => ?_, fun k o hk => ?_⟩, fun q hq => ?_, fun q hq => ?_, ?_⟩
  · rcases hget q hq with rfl | ⟨hq, hne⟩
    · exact hin
    · have hl := (h.stab.own q hq).lt
      obtain ⟨r, hr, hz⟩ := h.stab.own q hq
      exact ⟨r, (hg.block q.b hl (fun e => hne (by injection e))).trans hr, hz⟩
  · have hkb : k ≠ b := fun e => by subst e; rw [h.apart _ hm] at hk; cases hk
    exact (hg.block k (h.stab.pers.lt hk) (fun e => hkb (by injection e))).trans (h.stab.pers k o hk)
  · rcases hget q hq with rfl | ⟨hq, _⟩
    · rcases hb with rfl | rfl
      · exact hb0
      · exact h.below.size
    · exact h.new q hq
  · rcases hget q hq with rfl | ⟨hq, _⟩
    · exact hXb'
    · exact h.apart q hq
  · refine List.pairwise_iff_getElem.2 fun x y hx hy hxy => ?_
    have hx' : x < own.length := by simpa using hx
    have hy' : y < own.length := by simpa using hy
    have hp := List.pairwise_iff_getElem.1 h.nodup x y hx' hy' hxy
    by_cases ex : j = x
    · subst ex
      rw [List.getElem_set_self, List.getElem_set_ne (by omega)]
      exact fun e => hnew _ (List.getElem_mem hy') (hother y hy' (by omega)) e.symm
    · by_cases ey : j = y
      · subst ey
        rw [List.getElem_set_self, List.getElem_set_ne (by omega)]
        exact hnew _ (List.getElem_mem hx') (hother x hx' (by omega))
      · rw [List.getElem_set_ne ex, List.getElem_set_ne ey]; exact hp
/-- A new block, and nothing else has changed. -/
theorem SatC.newRow {w0 : World} {W W' : World} (h : SatC w0 X0 own X W) (hg : W.grownBy W' none) {b' : Nat} (hb : W.heap.size ≤ b') {cs' : List Value} {ty' : TypeId} {sz' : Nat} (hin : Ow.In ⟨b', cs', ty', sz'⟩ W') (hX : X b' = none) :
    SatC w0 X0 (⟨b', cs', ty', sz'⟩ :: own) X W' := by
  have hgr : Grow W W' := ⟨hg.size, fun k hk => hg.block k hk (by simp)⟩
  refine ⟨h.below.grown hg h.below.size (fun k e => by cases e), h.old, ⟨fun q hq => ?_, hgr.pin h.stab.pers⟩, fun q hq => ?_, fun q hq => ?_, .cons (fun q hq => ?_) h.nodup⟩
  · rcases List.mem_cons.1 hq with rfl | hq
    · exact hin
    · exact hgr.ow (h.stab.own q hq)
  · rcases List.mem_cons.1 hq with rfl | hq
    · exact Nat.le_trans h.below.size hb
    · exact h.new q hq
  · rcases List.mem_cons.1 hq with rfl | hq
    · exact hX
    · exact h.apart q hq
  · have := (h.stab.own q hq).lt
    simp only
    omega

theorem Sat.regrow {W W' : World} (h : Sat w0 X0 own X W) {b sz j : Nat} {cs : List Value} {ty : TypeId} (hj : own[j]? = some ⟨b, cs, ty, sz⟩) (hg : W.grownBy W' (some b)) {b' : Nat} (hb : b' = b ∨ b' = W.heap.size) {cs' : List Value} {ty' : TypeId} {sz' : Nat} (hin : Ow.In ⟨b', cs', ty', sz'⟩ W') :
    Sat w0 X0 (own.set j ⟨b', cs', ty', sz'⟩) X W' :=
  ⟨h.toSatC.regrow hj hg hb hin, fun p hp => by
    obtain ⟨h1, h2, h3, h4⟩ := h.res p hp
    have hbp : b ≠ p.1 := h3 _ (List.mem_of_getElem? hj)
    refine ⟨(hg.block p.1 (get_lt h1) (fun e => hbp (by injection e with e; exact e.symm))).trans h1, h2, fun q hq => ?_, h4⟩
    rcases set_b hq with rfl | hq
    · rcases hb with rfl | rfl
      · exact hbp
      · exact Ne.symm (Nat.ne_of_lt (get_lt h1))
    · exact h3 q hq⟩
theorem Sat.newRow {W W' : World} (h : Sat w0 X0 own X W) (hg : W.grownBy W' none) {b' : Nat} (hb : W.heap.size ≤ b') {cs' : List Value} {ty' : TypeId} {sz' : Nat} (hin : Ow.In ⟨b', cs', ty', sz'⟩ W') (hX : X b' = none) :
    Sat w0 X0 (⟨b', cs', ty', sz'⟩ :: own) X W' :=
  ⟨h.toSatC.newRow hg hb hin hX, fun p hp => by
    obtain ⟨h1, h2, h3, h4⟩ := h.res p hp
    refine ⟨(hg.block p.1 (get_lt h1) (by simp)).trans h1, h2, fun q hq => ?_, h4⟩
    rcases List.mem_cons.1 hq with rfl | hq
    · have := get_lt h1
      simp only
      omega
    · exact h3 q hq⟩
theorem run_append_none {t ty e : TypeId} {size bytes : Nat} (ht : SlT P t e size bytes) {W : World} {A : Option Addr} {m cap c : Nat} (h : A = none → m = 0) : (Builtin.append_ #[t, t] ty #[.slice A m cap, .slice none 0 c]).run P W = .ok (.slice A m (if m ≤ cap then cap else cap)) W ∨ ¬ m ≤ cap := by
  obtain ⟨i, z, h1, h2, h3, h4, h5, h6⟩ := ht.info
  by_cases hm : m ≤ cap
  · left
    cases A <;> simp [Builtin.append_, run_underlying ht.und, sizeOf, typeInfo, h1, Builtin.lenOf, Builtin.firstCells, hm, storeCells]
  · exact .inr hm

theorem execAppend {t : TypeId} {s x : Operand} {a : Act} {W W' : World} {oper : Oper} {v u v' : Value} (ho : oper.op = .call { callee := .builtin .append, args := #[s, x], argTypes := #[t, t] }) (hs : a.eval s = v) (hx : a.eval x = u)
    (h : (Builtin.append_ #[t, t] oper.type #[v, u]).run P W = .ok v' W') : (execOp a.eval oper).run P W = .ok (.value v') W' := by
  simp only [execOp, ho, resolve, invoke, builtin, Sem.run_bind, Sem.run_pure, Result.andThen_ok, List.map_toArray, List.map_cons, List.map_nil, hs, hx, h]

/-- append onto a row of the call's own. -/
theorem op_append {t e : TypeId} {s x : Operand} {b q cap sz j m size bytes : Nat} {cs news : List Value} {u : Value} (ht : SlT P t e size bytes) (hs : eev env s = some (.slice (some ⟨b, 0, none⟩) q cap)) (hx : eev env x = some u)
    (ho : AtO own b cs e sz j) (hsz : sz = cap * size) (hq : cs.length = q * size) (hqc : q ≤ cap) (hcap : cap ≤ maxLen) (hsrc : Src own X u m size news) (h1 : ∀ y ∈ news, y.oneCell' = true) (h63 : q + m ≤ maxLen) (hby : (q + m) * bytes ≤ 140737488355328) :
    OpX P n w0 X0 env own X (.call { callee := .builtin .append, args := #[s, x], argTypes := #[t, t] }) false fun v own' X' => ∃ b' cap', v = .slice (some ⟨b', 0, none⟩) (q + m) cap' ∧ own' = own.set j ⟨b', cs ++ news, e, cap' * size⟩ ∧ X = X' ∧ q + m ≤ cap' ∧ cap' ≤ maxLen := by
  intro a W oper K Q ro hop ha hsat hK
  obtain ⟨i, z, i1, i2, i3, i4, i5, i6⟩ := ht.info
  have hin := hsat.stab.own _ ho.mem
  have hb0 := hsat.new _ ho.mem
  obtain ⟨r, hr, hz⟩ := hin
  simp only at hr hz hb0
  have hrow : W.ownsRow w0.heap.size e size (.slice (some ⟨b, 0, none⟩) q cap) q cs :=
    ⟨hq, .inr ⟨b, cap, (cs ++ r).toArray, rfl, hb0, hr, hqc, hcap, by simp; omega, by simp [← hq]⟩⟩
  obtain ⟨hnl, A, c, rfl, hA⟩ := hsrc
  have fin : ∀ v' W', W'.ownsRow w0.heap.size e size v' (q + m) (cs ++ news) → W.grownBy W' (some b) → (∃ g, v'.ownBlock = some g ∧ (g = b ∨ g = W.heap.size)) → K (a.put oper.dst v') W' := by
    intro v' W' hown hg ⟨g, hg1, hg2⟩
    rcases hown.2 with ⟨rfl, _⟩ | ⟨g', cap', cur, rfl, hg0, hcur, hn, hmx, hsz', htk⟩
    · simp [Value.ownBlock] at hg1
    · have hgg : g' = g := by simpa [Value.ownBlock] using hg1
      subst hgg
      have hin' : Ow.In ⟨g', cs ++ news, e, cap' * size⟩ W' := by
        refine ⟨cur.toList.drop ((q + m) * size), ?_, ?_⟩
        · rw [← htk, List.take_append_drop]; exact hcur
        · have hmul : (q + m) * size ≤ cap' * size := Nat.mul_le_mul_right _ hn
          have hl := hown.1
          simp only at hl ⊢
          rw [hl, List.length_drop, Array.length_toList, hsz']; omega
      exact hK _ _ X W' ⟨g', cap', rfl, rfl, rfl, hn, hmx⟩ (hsat.regrow ho.get hg hg2 hin') (fun h => by cases h)
  have key : ∃ v' W', (Builtin.append_ #[t, t] oper.type #[.slice (some ⟨b, 0, none⟩) q cap, .slice A m c]).run P W = .ok v' W' ∧ W'.ownsRow w0.heap.size e size v' (q + m) (cs ++ news) ∧ W.grownBy W' (some b) ∧ ∃ g, v'.ownBlock = some g ∧ (g = b ∨ g = W.heap.size) := by
    have have0 : ∀ (ad : Addr), (∀ j u, news[j]? = some u → W.cell? (ad.add j) = some u) → ∃ v' W', (Builtin.append_ #[t, t] oper.type #[.slice (some ⟨b, 0, none⟩) q cap, .slice (some ad) m c]).run P W = .ok v' W' ∧ W'.ownsRow w0.heap.size e size v' (q + m) (cs ++ news) ∧ W.grownBy W' (some b) ∧ ∃ g, v'.ownBlock = some g ∧ (g = b ∨ g = W.heap.size) := fun ad had => by
      obtain ⟨v', W', r1, r2, r3, _, r5⟩ := run_append_own_at (P := P) W w0.heap.size t oper.type e i z size bytes ht.und i1 i4 i2 i3 i5 i6 _ q cs hrow ad m c news hnl had h1 h63 hby hsat.below.size
      refine ⟨v', W', r1, r2, r3, ?_⟩
      rcases r5 with r5 | r5
      · exact ⟨b, r5, .inl rfl⟩
      · exact ⟨_, r5, .inr rfl⟩
    rcases A with _ | ad
    · have hm : m = 0 := by
        rcases Nat.eq_zero_or_pos m with h0 | h0
        · exact h0
        · obtain ⟨_, _, h, _⟩ := hA h0; cases h
      subst hm
      have hn0 : news = [] := List.eq_nil_of_length_eq_zero (by simpa using hnl)
      subst hn0
      rcases run_append_none (P := P) (ty := oper.type) ht (W := W) (A := some ⟨b, 0, none⟩) (m := q) (cap := cap) (c := c) (fun h => by cases h) with h | h
      · refine ⟨_, W, h, ?_, World.grownBy.refl W _, b, by simp [Value.ownBlock], .inl rfl⟩
        simpa using hrow
      · exact absurd hqc h
    · refine have0 ad fun q' u hu => ?_
      have hm : 0 < m := by
        rcases Nat.eq_zero_or_pos m with h0 | h0
        · subst h0
          have hn0 : news = [] := List.eq_nil_of_length_eq_zero (by simpa using hnl)
          subst hn0; simp at hu
        · exact h0
      obtain ⟨b2, o2, hA2, hc2⟩ := hA hm
      cases hA2
      rw [Addr.add_mid]
      exact hc2 W hsat.stab _ _ hu
  obtain ⟨v', W', r1, r2, r3, r4⟩ := key
  refine wp_value (noDefer_spec (by rw [hop]; rfl)) (execAppend hop (ha.eval hs) (ha.eval hx) r1) ?_
  exact fin v' W' r2 r3 r4
/-- append onto nil: a new row. -/
theorem op_appendNil {t e : TypeId} {s x : Operand} {m size bytes : Nat} {news : List Value} {u : Value} (ht : SlT P t e size bytes) (hs : eev env s = some (.slice none 0 0)) (hx : eev env x = some u)
    (hsrc : Src own X u m size news) (hm : 0 < m) (h1 : ∀ y ∈ news, y.oneCell' = true) (h63 : m ≤ maxLen) (hby : m * bytes ≤ 140737488355328) :
    OpX P n w0 X0 env own X (.call { callee := .builtin .append, args := #[s, x], argTypes := #[t, t] }) true fun v own' X' => ∃ b' cap', v = .slice (some ⟨b', 0, none⟩) m cap' ∧ own' = ⟨b', news, e, cap' * size⟩ :: own ∧ X = X' ∧ m ≤ cap' ∧ cap' ≤ maxLen := by
  intro a W oper K Q ro hop ha hsat hK
  obtain ⟨i, z, i1, i2, i3, i4, i5, i6⟩ := ht.info
  obtain ⟨hnl, A, c, rfl, hA⟩ := hsrc
  obtain ⟨b2, o2, rfl, hc2⟩ := hA hm
  obtain ⟨v', W', r1, r2, r3, _, r5⟩ := run_append_own_at (P := P) W W.heap.size t oper.type e i z size bytes ht.und i1 i4 i2 i3 i5 i6 _ 0 [] (World.ownsRow_nil W _ e size) ⟨b2, o2, none⟩ m c news hnl (fun q u hu => by rw [Addr.add_mid]; exact hc2 W hsat.stab _ _ hu) h1 (by simpa using h63) (by simpa using hby) (Nat.le_refl _)
  rw [Nat.zero_add, List.nil_append] at r2
  refine wp_value (noDefer_spec (by rw [hop]; rfl)) (execAppend hop (ha.eval hs) (ha.eval hx) r1) ?_
  rcases r2.2 with ⟨_, h0⟩ | ⟨g', cap', cur, rfl, hg0, hcur, hn, hmx, hsz', htk⟩
  · omega
  · have hg3 : W.grownBy W' none := r3
    have hgs : g' = W.heap.size := by simpa [Value.ownBlock] using r5
    have hin' : Ow.In ⟨g', news, e, cap' * size⟩ W' := by
      refine ⟨cur.toList.drop (m * size), ?_, ?_⟩
      · rw [← htk, List.take_append_drop]; exact hcur
      · have hmul : m * size ≤ cap' * size := Nat.mul_le_mul_right _ hn
        simp only
        rw [hnl, List.length_drop, Array.length_toList, hsz']; omega
    subst hgs
    exact hK _ _ X W' ⟨_, cap', rfl, rfl, rfl, hn, hmx⟩ (hsat.newRow hg3 hg0 hin' hsat.stab.pers.fresh) (fun _ => ⟨hg3.size, fun k hk => hg3.block k hk (by simp)⟩)
/-- append of nothing onto nil. -/
theorem op_appendNil0 {t e : TypeId} {s x : Operand} {size bytes : Nat} {A : Option Addr} {c : Nat} (ht : SlT P t e size bytes) (hs : eev env s = some (.slice none 0 0)) (hx : eev env x = some (.slice A 0 c)) :
    OpY P n env own X (.call { callee := .builtin .append, args := #[s, x], argTypes := #[t, t] }) (.slice none 0 0) := by
  intro a W oper hop ha _
  obtain ⟨i, z, i1, i2, i3, i4, i5, i6⟩ := ht.info
  refine execAppend hop (ha.eval hs) (ha.eval hx) ?_
  have hl : ∀ (x : Addr), (loadCells x 0).run P W = .ok #[] W := fun x => by simpa using run_loadCells_list (P := P) W x [] (by simp)
  cases A <;> simp [Builtin.append_, run_underlying ht.und, sizeOf, typeInfo, i1, Builtin.lenOf, Builtin.firstCells, hl]
end
end Go.Proofs.YtmfiencoefbjfaaGreatDoor
namespace Go.Proofs.YtmfiencoefbjfaaGreatDoor
open Go.RowKit
section
variable {P : Program} {n : NM} {w0 : Base} {X0 X : PMap} {own : Own} {env : Env}
theorem madeCells_one (z : Value) (q : Nat) : madeCells #[z] q = (List.replicate q z).toArray := by
  apply Array.ext
  · simp [madeCells]
  · intro i h1 h2
    simp [madeCells, Nat.mod_one]
/-- make([]T, l, c), an element one cell. -/
theorem op_make {t e : TypeId} {x y : Operand} {bytes l c : Nat} {kl kc : IntKind} {z : Value} (ht : P.underlying t = some (.slice e)) (he : ∃ i, P.info? e = some i ∧ i.size = 1 ∧ i.bytes = bytes ∧ i.zero = some z) (hz : z.cells = #[z])
    (hx : eev env x = some (.int kl (l : Int))) (hy : eev env y = some (.int kc (c : Int))) (hlc : l ≤ c) (hb : bytes * c ≤ 140737488355328) (hc : c ≤ 9223372036854775807) :
    OpX P n w0 X0 env own X (.makeSlice t x y) true fun v own' X' => ∃ b, v = .slice (some ⟨b, 0, none⟩) l c ∧ own' = ⟨b, List.replicate l z, e, c⟩ :: own ∧ X = X' := by
  intro a W oper K Q ro hop ha hs hK
  obtain ⟨i, h1, h2, h3, h4⟩ := he
  have hbi : (i.bytes : Int) * (c : Int) ≤ 281474976710656 := by
    have : ((i.bytes * c : Nat) : Int) ≤ 281474976710656 := by rw [h3]; omega
    rwa [Int.natCast_mul] at this
  have hr := run_make (P := P) W t e i z ht h1 h4 kl kc (l : Int) (c : Int) (by omega) (by omega) hbi (by omega)
  simp only [Int.toNat_natCast, h2, Nat.mul_one, hz, madeCells_one] at hr
  refine wp_value (v := .slice (some ⟨W.heap.size, 0, none⟩) l c) (W' := W.alloc (.cells (List.replicate c z).toArray e)) (noDefer_spec (by rw [hop]; rfl)) ?_ (hK _ (⟨W.heap.size, List.replicate l z, e, c⟩ :: own) X _ ⟨_, rfl, rfl, rfl⟩ ?_ fun _ => Grow.alloc W _)
  · simp [execOp, hop, ha.eval hx, ha.eval hy, hr]
  · have h1 := hs.alloc (List.replicate c z) e
    have e1 : List.replicate c z = List.replicate l z ++ List.replicate (c - l) z := by rw [List.replicate_append_replicate]; congr 1; omega
    rw [List.length_replicate] at h1
    rw [show (⟨W.heap.size, List.replicate c z, e, c⟩ : Ow) = ⟨W.heap.size, List.replicate l z ++ List.replicate (c - l) z, e, c⟩ by rw [← e1]] at h1
    exact h1.forget

theorem op_copy {t t' e : TypeId} {x y : Operand} {b o dl dc j sz m : Nat} {cs news : List Value} {ty : TypeId} {u : Value} {sl : Nat} (ht : P.underlying t = some (.slice e)) (he : (P.info? e).map (·.size) = some 1)
    (hx : eev env x = some (.slice (some ⟨b, o, none⟩) dl dc)) (hy : eev env y = some u) (ho : AtO own b cs ty sz j) (hsrc : Src own X u sl 1 news) (hm : m = Nat.min sl dl) (hfit : o + m ≤ cs.length) (h1 : ∀ v ∈ news, v.oneCell' = true) :
    OpX P n w0 X0 env own X (.call { callee := .builtin .copy, args := #[x, y], argTypes := #[t, t'] }) false fun v own' X' => v = .int .i64 m ∧ own' = own.set j ⟨b, csets cs o (news.take m), ty, sz⟩ ∧ X = X' := by
  intro a W oper K Q ro hop ha hs hK
  have hin := hs.stab.own _ ho.mem
  obtain ⟨hnl, A, c, rfl, hA⟩ := hsrc
  have hex : ∀ v' W', (Builtin.copy_ #[t, t'] oper.type #[.slice (some ⟨b, o, none⟩) dl dc, .slice A sl c]).run P W = .ok v' W' → (execOp a.eval oper).run P W = .ok (.value v') W' := fun v' W' h => by
    simp only [execOp, hop, resolve, invoke, builtin, Sem.run_bind, Sem.run_pure, Result.andThen_ok, List.map_toArray, List.map_cons, List.map_nil, ha.eval hx, ha.eval hy, h]
  have hmsl : m ≤ sl := by rw [hm]; exact Nat.min_le_left _ _
  have hlen : (news.take m).length = m := by rw [List.length_take]; omega
  rcases Nat.eq_zero_or_pos m with h0 | h0
  · have hr := run_copy_none (P := P) W t t' oper.type e (some ⟨b, o, none⟩) A dl dc sl c ht he (by omega)
    refine wp_value (noDefer_spec (by rw [hop]; rfl)) (hex _ _ hr) ?_
    subst h0
    have hset : own.set j ⟨b, csets cs o (news.take 0), ty, sz⟩ = own := by
      apply List.ext_getElem?
      intro k
      by_cases e : j = k
      · subst e
        have hjl : j < own.length := by
          have := ho.get
          rcases Nat.lt_or_ge j own.length with h1 | h1
          · exact h1
          · rw [List.getElem?_eq_none h1] at this; cases this
        rw [List.getElem?_set_self hjl, ho.get]; rfl
      · rw [List.getElem?_set_ne e]
    exact hK _ _ X W ⟨rfl, rfl, rfl⟩ (by rw [hset]; exact hs) (fun h => by cases h)
  · obtain ⟨b2, o2, rfl, hc2⟩ := hA (by omega)
    have hr := run_copy_cells (P := P) W t t' oper.type e b o dl dc ⟨b2, o2, none⟩ sl c (news.take m) ht he (by rw [hlen, hm])
      (fun q v hv => by
        rw [Addr.add_mid]
        rw [List.getElem?_take] at hv
        split at hv
        · exact hc2 W hs.stab _ _ hv
        · cases hv)
      (fun q hq => by
        have hlt : o + q < cs.length := by omega
        rw [hin.cell (v := cs[o + q]) (by simp [hlt])]; rfl)
      (fun q _ => hin.frozen _) (fun v hv => h1 v (List.mem_of_mem_take hv))
    refine wp_value (noDefer_spec (by rw [hop]; rfl)) (hex _ _ hr) ?_
    exact hK _ _ X _ ⟨by rw [hlen]; rfl, rfl, rfl⟩ (hs.puts _ _ _ _ _ ho.get (by omega)) (fun h => by cases h)

theorem op_slice {t e : TypeId} {x : Operand} {lo hi : Option Operand} {b o len cap size l h : Nat} {row : Bool} (ht : P.underlying t = some (.slice e)) (he : Ty P e row size) (hx : eev env x = some (.slice (some ⟨b, o, none⟩) len cap))
    (hl : ∀ q, lo = some q → ∃ k, eev env q = some (.int k (l : Int))) (hl0 : lo = none → l = 0) (hh : ∀ q, hi = some q → ∃ k, eev env q = some (.int k (h : Int))) (hh0 : hi = none → h = len) (h1 : l ≤ h) (h2 : h ≤ cap) :
    OpY P n env own X (.slice t x lo hi none) (.slice (some (if cap = l then ⟨b, o, none⟩ else ⟨b, o + l * size, none⟩)) (h - l) (cap - l)) := by
  intro a W oper hop ha _
  have hinf := he.info
  have hinf' : ∃ inf, P.info? e = some inf ∧ inf.size = size := by
    cases hq : P.info? e with
    | none => simp [hq] at hinf
    | some inf => exact ⟨inf, rfl, by simpa [hq] using hinf⟩
  obtain ⟨inf, hq, hsz⟩ := hinf'
  have hsl : ∀ (lo' hi' : Option Value), (∀ v, lo' = some v → ∃ k, v = .int k (l : Int)) → (lo' = none → l = 0) → (∀ v, hi' = some v → ∃ k, v = .int k (h : Int)) → (hi' = none → h = len) →
      (Instr.sliceAt t (.slice (some ⟨b, o, none⟩) len cap) lo' hi' none).run P W = .ok (.slice (some (if cap = l then ⟨b, o, none⟩ else ⟨b, o + l * size, none⟩)) (h - l) (cap - l)) W := by
    intro lo' hi' a1 a2 a3 a4
    have hb2 : (Instr.sliceBounds true len cap lo' hi' none).run P W = .ok (l, h, cap) W := by
      cases lo' with
      | none =>
        have := a2 rfl
        subst this
        cases hi' with
        | none => have := a4 rfl; subst this; simp [Instr.sliceBounds]
        | some v => obtain ⟨k, rfl⟩ := a3 v rfl; simp [Instr.sliceBounds, Instr.sliceBound, asIntOf, h2]
      | some u =>
        obtain ⟨k', rfl⟩ := a1 u rfl
        cases hi' with
        | none => have := a4 rfl; subst this; simp [Instr.sliceBounds, Instr.sliceBound, asIntOf, h1]
        | some v => obtain ⟨k, rfl⟩ := a3 v rfl; simp [Instr.sliceBounds, Instr.sliceBound, asIntOf, h2, h1]
    simp only [Instr.sliceAt, Sem.run_bind, run_underlying ht, Result.andThen_ok, Instr.slice, hb2, sizeOf, typeInfo]
    by_cases hc : cap = l <;> simp [hc, hq, hsz, Addr.add_mid]
  have := hsl (lo.map a.eval) (hi.map a.eval) (fun v hv => by
      cases lo with
      | none => simp at hv
      | some q => obtain ⟨k, hk⟩ := hl q rfl; simp only [Option.map_some, Option.some.injEq] at hv; exact ⟨k, by rw [← hv, ha.eval hk]⟩)
    (fun hv => hl0 (by cases lo <;> simp_all)) (fun v hv => by
      cases hi with
      | none => simp at hv
      | some q => obtain ⟨k, hk⟩ := hh q rfl; simp only [Option.map_some, Option.some.injEq] at hv; exact ⟨k, by rw [← hv, ha.eval hk]⟩)
    (fun hv => hh0 (by cases hi <;> simp_all))
  simp [execOp, hop, ha.eval hx, this]

/-- Fields written into zeros. -/
def bfill (fs : List (Nat × Nat)) : List Value → List (Nat × Value) → Option (List Value)
  | cells, [] => some cells
  | cells, (i, v) :: r =>
    match fs[i]? with
    | none => none
    | some (off, size) => bif Nat.beq (vcells v).length size && Nat.ble (off + size) cells.length then bfill fs (csets cells off (vcells v)) r else none
theorem csets_foldl (off : Nat) : ∀ (vs : List Value) (cs : Array Value) (q : Nat), (vs.zipIdx q).foldl (fun (cs : Array Value) (p : Value × Nat) => cs.setIfInBounds (off + p.2) p.1) cs = (csets cs.toList (off + q) vs).toArray
  | [], cs, q => by simp [csets]
  | v :: vs, cs, q => by
    rw [List.zipIdx_cons, List.foldl_cons, csets_foldl off vs _ (q + 1)]
    simp [csets, Nat.add_assoc]
theorem fill_bfill {fs : List (Nat × Nat)} : ∀ (parts : List (Nat × Value)) (cells : List Value) (out : List Value), bfill fs cells parts = some out → Instr.fill (fun i => fs[i]?) cells.toArray parts = some out.toArray
  | [], cells, out, h => by simp only [bfill, Option.some.injEq] at h; subst h; rfl
  | (i, v) :: r, cells, out, h => by
    simp only [bfill] at h
    simp only [Instr.fill]
    cases hf : fs[i]? with
    | none => rw [hf] at h; cases h
    | some os =>
      obtain ⟨off, size⟩ := os
      rw [hf] at h
      simp only at h ⊢
      cases hb : Nat.beq (vcells v).length size && Nat.ble (off + size) cells.length with
      | false => rw [hb] at h; cases h
      | true =>
        rw [hb] at h
        simp only [Bool.and_eq_true] at hb
        have e1 : (vcells v).length = size := Nat.eq_of_beq_eq_true hb.1
        have e2 : off + size ≤ cells.length := Nat.le_of_ble_eq_true hb.2
        have hvs : v.cells.size = size := by rw [← Array.length_toList, vcells_spec, e1]
        have hcond : (decide (v.cells.size ≠ size) || decide (off + v.cells.size > cells.toArray.size)) = false := by simp [hvs]; omega
        simp only [hcond, Bool.false_eq_true, if_false]
        have := csets_foldl off (vcells v) cells.toArray 0
        rw [Nat.add_zero] at this
        have hz : v.cells.zipIdx.foldl (fun (cs : Array Value) (p : Value × Nat) => cs.setIfInBounds (off + p.2) p.1) cells.toArray = (csets cells off (vcells v)).toArray := by
          rw [← this, ← vcells_spec]
          rw [← Array.foldl_toList]
          simp
        have hz' : (v.cells.zipIdx.foldl (fun cs (x : Value × Nat) => match x with | (c, j) => cs.setIfInBounds (off + j) c) cells.toArray) = (csets cells off (vcells v)).toArray := hz
        rw [hz']
        exact fill_bfill r _ out h

theorem evalParts {ps : Array (Nat × Operand)} {qs : List (Nat × Value)} {a : Act} (ha : EOk n env a) (h : ps.toList.map (fun p => (p.1, eev env p.2)) = qs.map fun p => (p.1, some p.2)) : (ps.map fun (p : Nat × Operand) => (p.1, a.eval p.2)) = qs.toArray := by
  have all : ∀ (xs : List (Nat × Operand)) (vs : List (Nat × Value)), xs.map (fun p => (p.1, eev env p.2)) = vs.map (fun p => (p.1, some p.2)) → xs.map (fun p => (p.1, a.eval p.2)) = vs := by
    intro xs
    induction xs with
    | nil => intro vs h; cases vs <;> simp_all
    | cons x xs ih =>
      intro vs h
      cases vs with
      | nil => simp at h
      | cons v vs =>
        simp only [List.map_cons, List.cons.injEq, Prod.mk.injEq] at h
        obtain ⟨⟨h1, h2⟩, h3⟩ := h
        simp only [List.map_cons, ha.eval h2, ih vs h3, h1]
  apply Array.toList_inj.1
  simp [all _ _ h]
/-- What is known of a struct's type. -/
structure StT (P : Program) (t : TypeId) (fs : List (Nat × Nat)) (zs : List Value) : Prop where
  out : ∃ fields : Array Field, P.underlying t = some (.struct fields) ∧ (∀ W, (fields.mapM fun (f : Field) => (do pure (f.offset, ← sizeOf f.type) : Sem (Nat × Nat))).run P W = .ok fs.toArray W) ∧ Zero P t zs
theorem op_build {t : TypeId} {ps : Array (Nat × Operand)} {qs : List (Nat × Value)} {fs : List (Nat × Nat)} {zs out : List Value} (ht : StT P t fs zs) (hp : ps.toList.map (fun p => (p.1, eev env p.2)) = qs.map fun p => (p.1, some p.2)) (hf : bfill fs zs qs = some out) :
    OpY P n env own X (.build t ps) (.agg out.toArray) := by
  intro a W oper hop ha _
  obtain ⟨fields, h1, h2, h3⟩ := ht.out
  obtain ⟨z, hc, hr⟩ := h3.run
  have hfl := fill_bfill qs zs out hf
  have hb : (Instr.build t qs.toArray).run P W = .ok (.agg out.toArray) W := by
    simp only [Instr.build, Sem.run_bind, hr, Result.andThen_ok, run_underlying h1, h2, hc, List.getElem?_toArray, hfl, Sem.run_pure]
  have he := evalParts ha hp
  simp only [execOp, hop]
  have he' : (ps.map fun (x : Nat × Operand) => match x with | (i, x) => (i, a.eval x)) = qs.toArray := he
  rw [he']
  simp [hb]
theorem rep_cells (zs : List Value) : ∀ (len : Nat), (List.range (len * zs.length)).map (fun i => zs[i % zs.length]!) = (List.replicate len zs).flatten
  | 0 => by simp
  | len + 1 => by
    have h := rep_cells zs len
    rw [Nat.add_mul, Nat.one_mul, List.range_add, List.map_append, h, List.replicate_succ', List.flatten_append]
    congr 1
    simp only [List.map_map, List.flatten_cons, List.flatten_nil, List.append_nil]
    apply List.ext_getElem
    · simp
    · intro i h1 h2
      have hi : (len * zs.length + i) % zs.length = i := by rw [Nat.mul_comm, Nat.mul_add_mod]; exact Nat.mod_eq_of_lt h2
      simp [hi, h2]
theorem op_buildSlice {t e : TypeId} {len size : Nat} {ps : Array (Nat × Operand)} {qs : List (Nat × Value)} {zs out : List Value} (ht : P.underlying t = some (.slice e)) (he : ∃ i z, P.info? e = some i ∧ i.size = size ∧ i.zero = some z ∧ z.cells = zs.toArray) (hp : ps.toList.map (fun p => (p.1, eev env p.2)) = qs.map fun p => (p.1, some p.2))
    (hlen : Nat.ble (len * size) 16777216 = true) (hf : bfill ((List.range len).map fun i => (i * size, size)) (List.replicate len zs).flatten qs = some out) (hzs : zs.length = size) (hlq : qs.all (fun p => Nat.blt p.1 len) = true) :
    OpX P n w0 X0 env own X (.buildSlice t len ps) true fun v own' X' => ∃ b, v = .slice (some ⟨b, 0, none⟩) len len ∧ own' = ⟨b, out, e, out.length⟩ :: own ∧ X = X' := by
  intro a W oper K Q ro hop ha hs hK
  obtain ⟨i, z, h1, h2, h4, h5⟩ := he
  have hle : len * size ≤ 16777216 := Nat.le_of_ble_eq_true hlen
  have hrep := rep_cells zs len
  rw [hzs] at hrep
  have hcells : ∀ zc : Array Value, (len * size = 0 → True) → (len * size ≠ 0 → zc = zs.toArray) → (Array.range (len * size)).map (zc[· % zc.size]!) = (List.replicate len zs).flatten.toArray := by
    intro zc _ hzc
    by_cases h0 : len * size = 0
    · rw [← hrep]; simp [h0]
    · rw [hzc h0, ← hrep]
      apply Array.toList_inj.1
      simp [hzs]
  have hfl := fill_bfill qs _ out hf
  have hfl2 : Instr.fill (fun i => some (i * size, size)) (List.replicate len zs).flatten.toArray qs = some out.toArray := by
    have key : ∀ (parts : List (Nat × Value)) (cells : Array Value), (∀ p ∈ parts, p.1 < len) → Instr.fill (fun i => some (i * size, size)) cells parts = Instr.fill (fun i => ((List.range len).map fun i => (i * size, size))[i]?) cells parts := by
      intro parts
      induction parts with
      | nil => intro cells _; rfl
      | cons p r ih =>
        intro cells hlt
        obtain ⟨i, v⟩ := p
        have hi : i < len := hlt (i, v) (by simp)
        simp only [Instr.fill]
        have hg : ((List.range len).map fun i => (i * size, size))[i]? = some (i * size, size) := by simp [hi]
        rw [hg]
        simp only
        split
        · rfl
        · exact ih _ fun p hp => hlt p (by simp [hp])
    rw [key qs _ fun p hp => Nat.le_of_ble_eq_true (List.all_eq_true.1 hlq p hp)]
    exact hfl
  have hb : (Instr.buildSlice t len qs.toArray).run P W = .ok (.slice (some ⟨W.heap.size, 0, none⟩) len len) (W.alloc (.cells out.toArray e)) := by
    have hn : ¬ (16777216 < len * size) := by omega
    simp only [Instr.buildSlice, Sem.run_bind, run_underlying ht, Result.andThen_ok]
    by_cases h0 : len * size = 0
    · have hc0 := hcells #[] (fun _ => trivial) (fun h => absurd h0 h)
      simp only [h0] at hc0
      simp [sizeOf, typeInfo, h1, h2, h0, newRow, newObj]
      simp at hc0
      rw [← hc0] at hfl2
      simp [hfl2, Sem.run, World.alloc_eq]
    · have hc0 := hcells z.cells (fun h => absurd h h0) (fun _ => h5)
      simp [sizeOf, typeInfo, h1, h2, h0, hn, zeroValue, h4, newRow, newObj, Sem.run, World.alloc_eq, hc0, hfl2]
  refine op_new (noDefer_spec (by rw [hop]; rfl)) hs (cs := out) (ty := e) (v := .slice (some ⟨W.heap.size, 0, none⟩) len len) ?_ ⟨_, rfl, rfl, rfl⟩ hK
  have he' : (ps.map fun (x : Nat × Operand) => match x with | (i, x) => (i, a.eval x)) = qs.toArray := evalParts ha hp
  simp only [execOp, hop]
  rw [he']
  simp [hb]

section
variable {t t' : TypeId} {x y : Operand}
theorem op_bits {op : BinOp} {k : IntKind} {p q r : Int} (hx : eev env x = some (.int k p)) (hy : eev env y = some (.int k q)) (ho : op = .and ∨ op = .or ∨ op = .xor ∨ op = .andNot) (hr : bits op k p q = r) : OpY P n env own X (.binOp op t x y t') (.int k r) := by
  intro a W oper hop ha _
  subst hr
  rcases ho with rfl | rfl | rfl | rfl <;> simp [execOp, hop, ha.eval hx, ha.eval hy, binOp, eqGuard, Op.intBits, bits]
theorem op_and {p q : Nat} (hx : eev env x = some (.int .u64 (p : Int))) (hy : eev env y = some (.int .u64 (q : Int))) (h1 : p < 18446744073709551616) (h2 : q < 18446744073709551616) : OpY P n env own X (.binOp .and t x y t') (.int .u64 ((p &&& q : Nat) : Int)) := op_bits hx hy (by simp) (u64_and_nat p q h1 h2)
theorem op_or {p q : Nat} (hx : eev env x = some (.int .u64 (p : Int))) (hy : eev env y = some (.int .u64 (q : Int))) (h1 : p < 18446744073709551616) (h2 : q < 18446744073709551616) : OpY P n env own X (.binOp .or t x y t') (.int .u64 ((p ||| q : Nat) : Int)) := op_bits hx hy (by simp) (u64_or_nat p q h1 h2)
theorem op_andNot {p q : Nat} (hx : eev env x = some (.int .u64 (p : Int))) (hy : eev env y = some (.int .u64 (q : Int))) (h1 : p < 18446744073709551616) (h2 : q < 18446744073709551616) : OpY P n env own X (.binOp .andNot t x y t') (.int .u64 ((p &&& (18446744073709551615 - q) : Nat) : Int)) := op_bits hx hy (by simp) (u64_andNot_nat p q h1 h2)
theorem op_shl {k k' : IntKind} {p : Int} {q : Nat} (hx : eev env x = some (.int k p)) (hy : eev env y = some (.int k' (q : Int))) : OpY P n env own X (.binOp .shl t x y t') (.int k (k.wrap (p * 2 ^ (min q k.bits)))) := by
  intro a W oper hop ha _
  have hq : ¬ ((q : Int) < 0) := by omega
  simp [execOp, hop, ha.eval hx, ha.eval hy, binOp, eqGuard, Op.shift, hq]
theorem op_shr {k k' : IntKind} {p : Int} {q : Nat} (hx : eev env x = some (.int k p)) (hy : eev env y = some (.int k' (q : Int))) : OpY P n env own X (.binOp .shr t x y t') (.int k (p.fdiv (2 ^ (min q k.bits)))) := by
  intro a W oper hop ha _
  have hq : ¬ ((q : Int) < 0) := by omega
  simp [execOp, hop, ha.eval hx, ha.eval hy, binOp, eqGuard, Op.shift, hq]
/-- A mask to the right by fewer than 64. -/
theorem op_shrN {k' : IntKind} {p q : Nat} (hx : eev env x = some (.int .u64 (p : Int))) (hy : eev env y = some (.int k' (q : Int))) (hq : q < 64) : OpY P n env own X (.binOp .shr t x y t') (.int .u64 ((p >>> q : Nat) : Int)) := by
  have h := op_shr (P := P) (n := n) (own := own) (X := X) (t := t) (t' := t') hx hy
  have e : min q IntKind.u64.bits = q := Nat.min_eq_left (by show q ≤ 64; omega)
  rw [e] at h
  have e2 : (p : Int).fdiv (2 ^ q) = ((p >>> q : Nat) : Int) := by
    rw [Nat.shiftRight_eq_div_pow]
    have : ((2 : Int) ^ q) = ((2 ^ q : Nat) : Int) := by simp
    rw [this, Int.fdiv_eq_ediv_of_nonneg _ (Int.natCast_nonneg _)]
    simp
  rwa [e2] at h
/-- One to the left by fewer than 64. -/
theorem op_bit {k' : IntKind} {q : Nat} (hx : eev env x = some (.int .u64 1)) (hy : eev env y = some (.int k' (q : Int))) (hq : q < 64) : OpY P n env own X (.binOp .shl t x y t') (.int .u64 ((2 ^ q : Nat) : Int)) := by
  have h := op_shl (P := P) (n := n) (own := own) (X := X) (t := t) (t' := t') hx hy
  have e : min q IntKind.u64.bits = q := Nat.min_eq_left (by show q ≤ 64; omega)
  rw [e] at h
  have hlt : 2 ^ q < 18446744073709551616 := Nat.pow_lt_pow_right (a := 2) (by omega) hq
  have e2 : IntKind.u64.wrap (1 * 2 ^ q) = ((2 ^ q : Nat) : Int) := by
    have : ((1 : Int) * 2 ^ q) = ((2 ^ q : Nat) : Int) := by simp
    rw [this]
    generalize 2 ^ q = z at hlt
    simp [IntKind.wrap, IntKind.signed, IntKind.bits]
    omega
  rwa [e2] at h
theorem op_convert {src dst : TypeId} {k k' : IntKind} {p : Int} {d : TypeDesc} (hs : P.underlying src = some d) (hd : P.underlying dst = some (.int k)) (hx : eev env x = some (.int k' p)) : OpY P n env own X (.convert src dst x) (.int k (k.wrap p)) := by
  intro a W oper hop ha _
  simp [execOp, hop, ha.eval hx, convert, run_underlying hs, run_underlying hd, Conv.intToInt]
end
end
end Go.Proofs.YtmfiencoefbjfaaGreatDoor
namespace Go.Proofs.YtmfiencoefbjfaaGreatDoor
open Go.RowKit
section
variable {P : Program}
theorem zero_of {t : TypeId} {zs : List Value} (h : (P.info? t).map (fun i => i.zero.map fun z => z.cells) = some (some zs.toArray)) : ∃ i z, P.info? t = some i ∧ i.zero = some z ∧ z.cells = zs.toArray := by
  cases hi : P.info? t with
  | none => simp [hi] at h
  | some i =>
    cases hz : i.zero with
    | none => simp [hi, hz] at h
    | some z => exact ⟨i, z, rfl, hz, by simpa [hi, hz] using h⟩
theorem bs_of {e : TypeId} {size : Nat} {zs : List Value} (h : (P.info? e).map (fun i => (i.size, i.zero.map fun z => z.cells)) = some (size, some zs.toArray)) : ∃ i z, P.info? e = some i ∧ i.size = size ∧ i.zero = some z ∧ z.cells = zs.toArray := by
  cases hi : P.info? e with
  | none => simp [hi] at h
  | some i =>
    cases hz : i.zero with
    | none => simp [hi, hz] at h
    | some z =>
      simp only [hi, Option.map_some, hz, Option.some.injEq, Prod.mk.injEq] at h
      exact ⟨i, z, rfl, h.1, hz, h.2⟩
theorem mk_of {e : TypeId} {bytes : Nat} {z : Value} (h : (P.info? e).map (fun i => (i.size, i.bytes, i.zero)) = some (1, bytes, some z)) : ∃ i, P.info? e = some i ∧ i.size = 1 ∧ i.bytes = bytes ∧ i.zero = some z := by
  cases hi : P.info? e with
  | none => simp [hi] at h
  | some i =>
    simp only [hi, Option.map_some, Option.some.injEq, Prod.mk.injEq] at h
    exact ⟨i, rfl, h.1, h.2.1, h.2.2⟩
theorem sl_of {e : TypeId} {size bytes : Nat} (h : (P.info? e).map (fun i => (i.size, i.bytes, i.zero.map fun z => z.cells.size)) = some (size, bytes, some size)) (h0 : 0 < size) : ∃ i z, P.info? e = some i ∧ i.size = size ∧ i.bytes = bytes ∧ i.zero = some z ∧ z.cells.size = size ∧ 0 < size := by
  cases hi : P.info? e with
  | none => simp [hi] at h
  | some i =>
    cases hz : i.zero with
    | none => simp [hi, hz] at h
    | some z =>
      simp only [hi, Option.map_some, hz, Option.some.injEq, Prod.mk.injEq] at h
      exact ⟨i, z, rfl, h.1, h.2.1, hz, h.2.2, h0⟩
theorem fadr_mk {s : TypeId} {f off : Nat} {fields : Array Field} {fl : Field} (h1 : P.underlying s = some (.struct fields)) (h2 : fields[f]? = some fl) (h3 : fl.offset = off) (h4 : (P.info? fl.type).map (fun i => Nat.beq i.size 0) = some false) : FAdr P s f off := by
  cases hi : P.info? fl.type with
  | none => simp [hi] at h4
  | some i =>
    simp only [hi, Option.map_some, Option.some.injEq] at h4
    exact ⟨⟨fields, fl, i, h1, h2, h3, hi, Nat.ne_of_beq_eq_false h4⟩⟩
theorem enters_mk {f : FuncId} {fn : Func} (hf : P.funcs[f]? = some fn) (hn : (fn.name == "runtime.NumGoroutine") = false) (hb : fn.body.isNone = false) : Enters P f := by
  intro args W
  simp only [callFunc, program, Sem.run_bind, Sem.run, Result.andThen_ok, hf]
  rw [if_neg (by rw [hn]; simp), if_neg (by rw [hb]; simp)]
  rfl

variable {n : NM} {X : PMap} {own : Own} {env : Env} {t t' : TypeId} {x y : Operand} {k : IntKind}
theorem op_quoN {p q : Nat} {q' : Int} (hx : eev env x = some (.int .i64 (p : Int))) (hy : eev env y = some (.int .i64 q')) (hq' : q' = Int.ofNat q) (h1 : p ≤ 9223372036854775807) (hq : 0 < q) : OpY P n env own X (.binOp .quo t x y t') (.int .i64 ((p / q : Nat) : Int)) := by
  subst hq'
  have hy' : eev env y = some (.int .i64 (q : Int)) := hy
  have := op_quo (P := P) (n := n) (own := own) (X := X) (t := t) (t' := t') hx hy' (by omega) (by omega) (by omega)
  simpa using this
theorem op_remN {p q : Nat} {q' : Int} (hx : eev env x = some (.int k (p : Int))) (hy : eev env y = some (.int k q')) (hq' : q' = Int.ofNat q) (hq : 0 < q) : OpY P n env own X (.binOp .rem t x y t') (.int k ((p % q : Nat) : Int)) := by
  subst hq'
  have hy' : eev env y = some (.int k (q : Int)) := hy
  have := op_rem (P := P) (n := n) (own := own) (X := X) (t := t) (t' := t') hx hy' (by omega) (by omega)
  simpa using this
theorem op_maxN {p q : Nat} {ts : Array TypeId} (hx : eev env x = some (.int k (p : Int))) (hy : eev env y = some (.int k (q : Int))) : OpY P n env own X (.call { callee := .builtin .max, args := #[x, y], argTypes := ts }) (.int k ((max p q : Nat) : Int)) :=
  op_max hx hy (by split <;> omega)
theorem op_minN {p q : Nat} {ts : Array TypeId} (hx : eev env x = some (.int k (p : Int))) (hy : eev env y = some (.int k (q : Int))) : OpY P n env own X (.call { callee := .builtin .min, args := #[x, y], argTypes := ts }) (.int k ((min p q : Nat) : Int)) :=
  op_min hx hy (by split <;> omega)
theorem op_maxL {p q : Int} {ts : Array TypeId} (hx : eev env x = some (.int k p)) (hy : eev env y = some (.int k q)) (h : q ≤ p) : OpY P n env own X (.call { callee := .builtin .max, args := #[x, y], argTypes := ts }) (.int k p) := op_max hx hy (if_neg (by omega))
theorem op_maxR {p q : Int} {ts : Array TypeId} (hx : eev env x = some (.int k p)) (hy : eev env y = some (.int k q)) (h : p ≤ q) : OpY P n env own X (.call { callee := .builtin .max, args := #[x, y], argTypes := ts }) (.int k q) := op_max hx hy (by split <;> omega)
theorem op_minL {p q : Int} {ts : Array TypeId} (hx : eev env x = some (.int k p)) (hy : eev env y = some (.int k q)) (h : p ≤ q) : OpY P n env own X (.call { callee := .builtin .min, args := #[x, y], argTypes := ts }) (.int k p) := op_min hx hy (if_neg (by omega))
theorem op_minR {p q : Int} {ts : Array TypeId} (hx : eev env x = some (.int k p)) (hy : eev env y = some (.int k q)) (h : q ≤ p) : OpY P n env own X (.call { callee := .builtin .min, args := #[x, y], argTypes := ts }) (.int k q) := op_min hx hy (by split <;> omega)
end
/-- The slots that are named here hold what they are said to hold. -/
inductive Sub (env : Env) : Env → Prop
  | nil : Sub env []
  | cons {t : Nat} {v : Value} {r : Env} : eget env t = some v → Sub env r → Sub env ((t, v) :: r)
theorem Sub.get {env env' : Env} (h : Sub env env') : ∀ t v, eget env' t = some v → eget env t = some v := by
  induction h with
  | nil => intro t v h; cases h
  | cons h _ ih =>
    intro t v hv
    simp only [eget] at hv
    rename_i t0 v0 r0 _
    cases hb : Nat.beq t0 t with
    | true =>
      rw [hb] at hv
      simp only [cond_true, Option.some.injEq] at hv
      rw [← Nat.eq_of_beq_eq_true hb, ← hv]; exact h
    | false => rw [hb] at hv; exact ih t v hv
end Go.Proofs.YtmfiencoefbjfaaGreatDoor
namespace Go.Proofs.YtmfiencoefbjfaaGreatDoor
open Go.RowKit
section
variable {P : Program} {n : NM} {X : PMap} {own : Own} {env : Env} {t t' : TypeId} {x y : Operand} {k : IntKind}
theorem wrap_u64 {p : Nat} (h : p < 18446744073709551616) : IntKind.u64.wrap (p : Int) = (p : Int) := by simp [IntKind.wrap, IntKind.signed, IntKind.bits]; omega
theorem wrap_u64' (p : Nat) : IntKind.u64.wrap (p : Int) = ((p % 18446744073709551616 : Nat) : Int) := by simp [IntKind.wrap, IntKind.signed, IntKind.bits]
theorem wrap_u64i {p : Int} (h0 : 0 ≤ p) (h : p < 18446744073709551616) : IntKind.u64.wrap p = p := by simp [IntKind.wrap, IntKind.signed, IntKind.bits]; omega
theorem op_addN {p q : Nat} (hx : eev env x = some (.int .i64 (p : Int))) (hy : eev env y = some (.int .i64 (q : Int))) (h : p + q ≤ 9223372036854775807) : OpY P n env own X (.binOp .add t x y t') (.int .i64 ((p + q : Nat) : Int)) := by
  have := op_add (P := P) (n := n) (own := own) (X := X) (t := t) (t' := t') hx hy (by omega) (by omega)
  simpa using this
theorem op_subN {p q : Nat} (hx : eev env x = some (.int .i64 (p : Int))) (hy : eev env y = some (.int .i64 (q : Int))) (h : q ≤ p) (h' : p ≤ 9223372036854775807) : OpY P n env own X (.binOp .sub t x y t') (.int .i64 ((p - q : Nat) : Int)) := by
  have := op_sub (P := P) (n := n) (own := own) (X := X) (t := t) (t' := t') hx hy (by omega) (by omega)
  rwa [show (p : Int) - (q : Int) = ((p - q : Nat) : Int) by omega] at this
theorem op_mulN {p q : Nat} (hx : eev env x = some (.int .i64 (p : Int))) (hy : eev env y = some (.int .i64 (q : Int))) (h : p * q ≤ 9223372036854775807) : OpY P n env own X (.binOp .mul t x y t') (.int .i64 ((p * q : Nat) : Int)) := by
  have e : (p : Int) * (q : Int) = ((p * q : Nat) : Int) := by simp
  have := op_mul (P := P) (n := n) (own := own) (X := X) (t := t) (t' := t') hx hy (by rw [e]; omega) (by rw [e]; omega)
  rwa [e] at this
theorem op_addU {p q : Nat} (hx : eev env x = some (.int .u64 (p : Int))) (hy : eev env y = some (.int .u64 (q : Int))) (h : p + q < 18446744073709551616) : OpY P n env own X (.binOp .add t x y t') (.int .u64 ((p + q : Nat) : Int)) := by
  have := op_addW (P := P) (n := n) (own := own) (X := X) (t := t) (t' := t') hx hy
  rwa [show (p : Int) + (q : Int) = ((p + q : Nat) : Int) by omega, wrap_u64 h] at this
theorem op_subU {p q : Nat} (hx : eev env x = some (.int .u64 (p : Int))) (hy : eev env y = some (.int .u64 (q : Int))) (h : q ≤ p) (h' : p < 18446744073709551616) : OpY P n env own X (.binOp .sub t x y t') (.int .u64 ((p - q : Nat) : Int)) := by
  have := op_subW (P := P) (n := n) (own := own) (X := X) (t := t) (t' := t') hx hy
  rwa [show (p : Int) - (q : Int) = ((p - q : Nat) : Int) by omega, wrap_u64 (by omega)] at this
theorem op_mulU {p q : Nat} (hx : eev env x = some (.int .u64 (p : Int))) (hy : eev env y = some (.int .u64 (q : Int))) : OpY P n env own X (.binOp .mul t x y t') (.int .u64 ((p * q % 18446744073709551616 : Nat) : Int)) := by
  have := op_mulW (P := P) (n := n) (own := own) (X := X) (t := t) (t' := t') hx hy
  rwa [show (p : Int) * (q : Int) = ((p * q : Nat) : Int) by simp, wrap_u64'] at this
theorem op_negU {p : Nat} (hx : eev env x = some (.int .u64 (p : Int))) (h0 : 0 < p) (h : p < 18446744073709551616) : OpY P n env own X (.unOp .neg t x) (.int .u64 ((18446744073709551616 - p : Nat) : Int)) := by
  intro a W oper ho ha _
  have e : IntKind.u64.wrap (0 - (p : Int)) = ((18446744073709551616 - p : Nat) : Int) := by simp [IntKind.wrap, IntKind.signed, IntKind.bits]; omega
  simp only [execOp, ho, ha.eval hx, Op.unary, Op.intArith]
  simp only [Int.zero_sub] at e
  simp [e]
theorem op_quo0 {p q : Nat} {q' : Int} (hx : eev env x = some (.int .i64 (p : Int))) (hy : eev env y = some (.int .i64 q')) (hq' : q' = Int.ofNat q) (h1 : p ≤ 9223372036854775807) (hq : p < q) : OpY P n env own X (.binOp .quo t x y t') (.int .i64 ((0 : Nat) : Int)) := by
  have := op_quoN (P := P) (n := n) (own := own) (X := X) (t := t) (t' := t') hx hy hq' h1 (by omega)
  rwa [Nat.div_eq_of_lt hq] at this
theorem op_remS {p q : Nat} {q' : Int} (hx : eev env x = some (.int k (p : Int))) (hy : eev env y = some (.int k q')) (hq' : q' = Int.ofNat q) (hq : p < q) : OpY P n env own X (.binOp .rem t x y t') (.int k (p : Int)) := by
  have := op_remN (P := P) (n := n) (own := own) (X := X) (t := t) (t' := t') hx hy hq' (by omega)
  rwa [Nat.mod_eq_of_lt hq] at this
theorem op_shrK {k' : IntKind} {p q : Nat} (hx : eev env x = some (.int k (p : Int))) (hy : eev env y = some (.int k' (q : Int))) (hq : q ≤ k.bits) : OpY P n env own X (.binOp .shr t x y t') (.int k ((p >>> q : Nat) : Int)) := by
  have h := op_shr (P := P) (n := n) (own := own) (X := X) (t := t) (t' := t') hx hy
  have e : min q k.bits = q := Nat.min_eq_left hq
  rw [e] at h
  have e2 : (p : Int).fdiv (2 ^ q) = ((p >>> q : Nat) : Int) := by
    rw [Nat.shiftRight_eq_div_pow]
    have : ((2 : Int) ^ q) = ((2 ^ q : Nat) : Int) := by simp
    rw [this, Int.fdiv_eq_ediv_of_nonneg _ (Int.natCast_nonneg _)]
    simp
  rwa [e2] at h
theorem op_indexA {e : TypeId} {ix : Operand} {b o len size : Nat} {row : Bool} {i : Nat} (ht : P.underlying t = some (.array len e)) (he : Ty P e row size) (hx : eev env x = some (.pointer (some ⟨b, o, none⟩))) (hi : eev env ix = some (.int k (i : Int))) (h1 : i < len) :
    OpY P n env own X (.indexAddr t x ix) (.pointer (some ⟨b, o + i * size, none⟩)) := by
  intro a W oper hop ha _
  have hinf := he.info
  cases hq : P.info? e with
  | none => simp [hq] at hinf
  | some inf =>
    have hsz : inf.size = size := by simpa [hq] using hinf
    have h1' : (i : Int) < (len : Int) := by omega
    simp [execOp, hop, ha.eval hx, ha.eval hi, Instr.indexAt, asIntOf, run_underlying ht, h1, sizeOf, typeInfo, hq, hsz, Addr.add_mid, Instr.sureAddr]
theorem op_convI64 {src dst : TypeId} {k' : IntKind} {p : Int} {d : TypeDesc} (hs : P.underlying src = some d) (hd : P.underlying dst = some (.int .i64)) (hx : eev env x = some (.int k' p)) (h0 : -9223372036854775808 ≤ p) (h1 : p ≤ 9223372036854775807) : OpY P n env own X (.convert src dst x) (.int .i64 p) := by
  have := op_convert (n := n) (own := own) (X := X) hs hd hx
  rwa [wrap_i64_in h0 h1] at this
theorem op_convU64 {src dst : TypeId} {k' : IntKind} {p : Int} {d : TypeDesc} (hs : P.underlying src = some d) (hd : P.underlying dst = some (.int .u64)) (hx : eev env x = some (.int k' p)) (h0 : 0 ≤ p) (h1 : p < 18446744073709551616) : OpY P n env own X (.convert src dst x) (.int .u64 p) := by
  have := op_convert (n := n) (own := own) (X := X) hs hd hx
  rwa [wrap_u64i h0 h1] at this
end
section
variable {P : Program} {n : NM} {X : PMap} {own : Own} {env : Env}
theorem op_buildA {t e : TypeId} {len size : Nat} {ps : Array (Nat × Operand)} {qs : List (Nat × Value)} {zs out : List Value} (ht : P.underlying t = some (.array len e)) (hz : Zero P t zs) (he : (P.info? e).map (·.size) = some size) (hp : ps.toList.map (fun p => (p.1, eev env p.2)) = qs.map fun p => (p.1, some p.2))
    (hf : bfill ((List.range len).map fun i => (i * size, size)) zs qs = some out) (hlq : qs.all (fun p => Nat.blt p.1 len) = true) : OpY P n env own X (.build t ps) (.agg out.toArray) := by
  intro a W oper hop ha _
  obtain ⟨z, hc, hr⟩ := hz.run
  have hfl := fill_bfill qs zs out hf
  have hfl2 : Instr.fill (fun i => some (i * size, size)) zs.toArray qs = some out.toArray := by
    have key : ∀ (parts : List (Nat × Value)) (cells : Array Value), (∀ p ∈ parts, p.1 < len) → Instr.fill (fun i => some (i * size, size)) cells parts = Instr.fill (fun i => ((List.range len).map fun i => (i * size, size))[i]?) cells parts := by
      intro parts
      induction parts with
      | nil => intro cells _; rfl
      | cons p r ih =>
        intro cells hlt
        obtain ⟨i, v⟩ := p
        have hi : i < len := hlt (i, v) (by simp)
        simp only [Instr.fill]
        have hg : ((List.range len).map fun i => (i * size, size))[i]? = some (i * size, size) := by simp [hi]
        rw [hg]
        simp only
        split
        · rfl
        · exact ih _ fun p hp => hlt p (by simp [hp])
    rw [key qs _ fun p hp => Nat.le_of_ble_eq_true (List.all_eq_true.1 hlq p hp)]
    exact hfl
  have hsz : ∃ i, P.info? e = some i ∧ i.size = size := by
    cases hq : P.info? e with
    | none => simp [hq] at he
    | some i => exact ⟨i, rfl, by simpa [hq] using he⟩
  obtain ⟨i, h1, h2⟩ := hsz
  have hb : (Instr.build t qs.toArray).run P W = .ok (.agg out.toArray) W := by
    simp only [Instr.build, Sem.run_bind, hr, Result.andThen_ok, run_underlying ht, hc]
    simp [sizeOf, typeInfo, h1, h2, hfl2]
  have he' : (ps.map fun (x : Nat × Operand) => match x with | (i, x) => (i, a.eval x)) = qs.toArray := evalParts ha hp
  simp only [execOp, hop]
  rw [he']
  simp [hb]
end
section
variable {ro : Option Nat} {P : Program} {n : NM} {w0 : Base} {X0 X : PMap} {own : Own} {env : Env} {Q : Exit → Act → World → Prop}
theorem T.less {k : List It} {e : Option Nat} {own' : Own} (hs : own'.Sublist own) (h : T ro P n w0 X0 Q k e env own' X) : T ro P n w0 X0 Q k e env own X := fun a W ha hsat => h a W ha (hsat.sub hs)
theorem T.drop {k : List It} {e : Option Nat} (b : Nat) {cs : List Value} {ty : TypeId} {sz j : Nat} (_ : AtO own b cs ty sz j) (h : T ro P n w0 X0 Q k e env (own.eraseIdx j) X) : T ro P n w0 X0 Q k e env own X := T.less (List.eraseIdx_sublist ..) h
theorem T.dropAt {ops : Array Oper} {l : List Oper} (b : Nat) {cs : List Value} {ty : TypeId} {sz j : Nat} (_ : AtO own b cs ty sz j) (h : SL ro P n w0 X0 ops Q l env (own.eraseIdx j) X) : SL ro P n w0 X0 ops Q l env own X := fun a W ha hs => h a W ha (hs.sub (List.eraseIdx_sublist ..))
theorem T.loopW {c : Code} {k : List It} (I : Fam) (m : Nat) {env' : Env} (h0 : I m env' own X) (hw : Sub env env')
    (round : ∀ m env own X, I m env own X → T ro P n w0 X0 Q (.code c :: backTo n w0 X0 I m :: k) none env own X) : T ro P n w0 X0 Q (.code (.loop c) :: k) none env own X := T.weaken hw.get (T.loop I m h0 round)
theorem T.backW {I : Fam} {m : Nat} {k : List It} (m' : Nat) (hm : m' < m) {env' : Env} (hI : I m' env' own X) (hw : Sub env env') : T ro P n w0 X0 Q (backTo n w0 X0 I m :: k) none env own X := T.back m' hm hI hw.get
end
end Go.Proofs.YtmfiencoefbjfaaGreatDoor
namespace Go.Proofs.YtmfiencoefbjfaaGreatDoor
open Go.RowKit
def ints (l : List Nat) : List Value := l.map fun (i : Nat) => .int .i64 (i : Int)
/-- v is a slice of these cells, size cells an element. -/
def SliceR (X : PMap) (v : Value) (len : Nat) (cs : List Value) : Prop :=
  (len = 0 ∧ cs = [] ∧ ∃ A c, v = .slice A 0 c) ∨ (0 < len ∧ ∃ b c, v = .slice (some ⟨b, 0, none⟩) len c ∧ Blk X b cs)
theorem SliceR.mono {X X' : PMap} {v : Value} {len : Nat} {cs : List Value} (h : SliceR X v len cs) (hX : X.le X') : SliceR X' v len cs := by
  rcases h with h | ⟨h0, b, c, hv, hb⟩
  · exact .inl h
  · exact .inr ⟨h0, b, c, hv, hb.mono hX⟩
theorem ints_get (l : List Nat) (j : Nat) (h : j < l.length) : (ints l)[j]? = some (.int .i64 (l[j] : Int)) := by simp [ints, h]
theorem ints_some {l : List Nat} {i : Nat} {x : Value} (h : (ints l)[i]? = some x) : ∃ h : i < l.length, x = .int .i64 ((l[i] : Nat) : Int) := by
  have hl : i < l.length := by
    have := (List.getElem?_eq_some_iff.1 h).1
    simpa [ints] using this
  refine ⟨hl, ?_⟩
  rw [ints_get l i hl] at h
  exact (Option.some.inj h).symm
theorem cread1 {cs : List Value} {j : Nat} {v : Value} (h : cs[j]? = some v) : cread false 1 cs (0 + j * 1) = some v := by simpa [cread] using h
theorem creadR1 {cs : List Value} {j : Nat} {v : Value} (h : cs[j]? = some v) : cread true 1 cs (0 + j * 1) = some (.agg #[v]) := by
  have hl := (List.getElem?_eq_some_iff.1 h).1
  have : (cs.drop j).take 1 = [v] := by
    apply List.ext_getElem?
    intro k
    rcases k with _ | k
    · simp [h]
    · simp
      omega
  have hb : Nat.ble (j + 1) cs.length = true := Nat.ble_eq_true_of_le hl
  simp [cread, hb, this]

/-- A slice of the call's own that has grown from nil. -/
def GrowS (e : TypeId) (size : Nat) (v : Value) (len : Nat) (cs : List Value) (G : Own) : Prop :=
  (len = 0 ∧ cs = [] ∧ v = .slice none 0 0 ∧ G = []) ∨
  (∃ b cap, v = .slice (some ⟨b, 0, none⟩) len cap ∧ G = [⟨b, cs, e, cap * size⟩] ∧ len ≤ cap ∧ cap ≤ maxLen ∧ cs.length = len * size)
theorem GrowS.nil {e : TypeId} {size : Nat} : GrowS e size (.slice none 0 0) 0 [] [] := .inl ⟨rfl, rfl, rfl, rfl⟩
theorem GrowS.form {e : TypeId} {size len : Nat} {v : Value} {cs : List Value} {G : Own} (h : GrowS e size v len cs G) : ∃ A cap, v = .slice A len cap := by
  rcases h with ⟨rfl, _, rfl, _⟩ | ⟨b, cap, rfl, _⟩
  · exact ⟨_, _, rfl⟩
  · exact ⟨_, _, rfl⟩
theorem AtO.append {G : Own} {b : Nat} {cs : List Value} {ty : TypeId} {sz j : Nat} (h : AtO G b cs ty sz j) : ∀ (own0 : Own), AtO (own0 ++ G) b cs ty sz (own0.length + j)
  | [] => by simpa using h
  | o :: l => by
    have := AtO.there (o := o) (AtO.append h l)
    rw [show l.length + j + 1 = (o :: l).length + j by simp; omega] at this
    exact this

section
variable {ro : Option Nat} {P : Program} {n : NM} {w0 : Base} {X0 X : PMap} {own : Own} {env : Env} {Q : Exit → Act → World → Prop}
theorem OpX.weaken {o : Op} {g : Bool} {k k' : Value → Own → PMap → Prop} (h : OpX P n w0 X0 env own X o g k) (hk : ∀ v own' X', k v own' X' → ∃ (own'' mid : Own), k' v own'' X' ∧ mid.Sublist own' ∧ mid.Perm own'') : OpX P n w0 X0 env own X o false k' := by
  intro a W oper K Q ro hop ha hs hK
  refine h a W oper K Q ro hop ha hs fun v own' X' W' hkk hs' hg => ?_
  obtain ⟨own'', mid, h1, h2, h3⟩ := hk v own' X' hkk
  exact hK v own'' X' W' h1 ((hs'.sub h2).perm h3) fun h => by cases h
/-- append of one element, which was laid as a slice literal just before: that literal is forgotten. -/
theorem op_appendG {t e ty : TypeId} {s x : Operand} {v : Value} {B c1 sz len size bytes : Nat} {cs new : List Value} {own0 G : Own} (ht : SlT P t e size bytes) (hs : eev env s = some v) (hg : GrowS e size v len cs G) (hx : eev env x = some (.slice (some ⟨B, 0, none⟩) 1 c1))
    (hnew : new.length = size) (h1 : new.all (·.oneCell') = true) (hlen : len + 1 ≤ maxLen) (hby : (len + 1) * bytes ≤ 140737488355328) :
    OpX P n w0 X0 env (⟨B, new, ty, sz⟩ :: (own0 ++ G)) X (.call { callee := .builtin .append, args := #[s, x], argTypes := #[t, t] }) false fun v' own' X' => ∃ G', own' = own0 ++ G' ∧ X = X' ∧ GrowS e size v' (len + 1) (cs ++ new) G' := by
  have h1' : ∀ y ∈ new, y.oneCell' = true := List.all_eq_true.1 h1
  rcases hg with ⟨rfl, rfl, rfl, rfl⟩ | ⟨b, cap, rfl, rfl, hlc, hcm, hcl⟩
  · refine (op_appendNil (m := 1) (news := new) ht hs hx (Src.ofOwn0 AtO.here (by simp [hnew])) (by omega) h1' (by simpa using hlen) (by simpa using hby)).weaken ?_
    rintro v' own' X' ⟨b', cap', rfl, rfl, rfl, hc1, hc2⟩
    refine ⟨own0 ++ [⟨b', new, e, cap' * size⟩], ⟨b', new, e, cap' * size⟩ :: own0, ⟨_, rfl, rfl, .inr ⟨b', cap', by simp, by simp, by omega, hc2, by simp [hnew]⟩⟩, ?_, (List.perm_append_singleton ..).symm⟩
    rw [List.append_nil]
    exact List.Sublist.cons_cons _ (List.sublist_cons_self ..)
  · refine (op_append (m := 1) (news := new) (j := own0.length + 1) ht hs hx ?_ rfl hcl hlc hcm (Src.ofOwn0 AtO.here (by simp [hnew])) h1' (by simpa using hlen) (by simpa using hby)).weaken ?_
    · have := AtO.there (o := ⟨B, new, ty, sz⟩) ((AtO.here (l := []) (b := b) (cs := cs) (ty := e) (sz := cap * size)).append own0)
      simpa using this
    · rintro v' own' X' ⟨b', cap', rfl, rfl, rfl, hc1, hc2⟩
      refine ⟨own0 ++ [⟨b', cs ++ new, e, cap' * size⟩], _, ⟨_, rfl, rfl, .inr ⟨b', cap', rfl, rfl, hc1, hc2, by simp [hcl, hnew, Nat.add_mul]⟩⟩, ?_, .refl _⟩
      have e1 : (⟨B, new, ty, sz⟩ :: (own0 ++ [(⟨b, cs, e, cap * size⟩ : Ow)])).set (own0.length + 1) ⟨b', cs ++ new, e, cap' * size⟩ = ⟨B, new, ty, sz⟩ :: (own0 ++ [⟨b', cs ++ new, e, cap' * size⟩]) := by
        simp
      rw [e1]
      exact List.sublist_cons_self ..
/-- What has grown is laid for good. -/
theorem Sat.pubG {e : TypeId} {size len : Nat} {v : Value} {cs : List Value} {own0 G : Own} {W : World} (hg : GrowS e size v len cs G) (h : Sat w0 X0 (own0 ++ G) X W) : ∃ X', X.le X' ∧ SliceR X' v len cs ∧ Sat w0 X0 own0 X' W := by
  rcases hg with ⟨rfl, rfl, rfl, rfl⟩ | ⟨b, cap, rfl, rfl, hlc, hcm, hcl⟩
  · rw [List.append_nil] at h
    exact ⟨X, PMap.le_refl X, .inl ⟨rfl, rfl, _, _, rfl⟩, h⟩
  · have ha := (AtO.here (l := []) (b := b) (cs := cs) (ty := e) (sz := cap * size)).append own0
    obtain ⟨X', h1, h2, _, h4⟩ := h.pub ha
    refine ⟨X', h1, ?_, ?_⟩
    · rcases Nat.eq_zero_or_pos len with h0 | h0
      · subst h0
        have : cs = [] := List.eq_nil_of_length_eq_zero (by simpa using hcl)
        subst this
        exact .inl ⟨rfl, rfl, _, _, rfl⟩
      · exact .inr ⟨h0, b, cap, rfl, h2⟩
    · have e1 : (own0 ++ [(⟨b, cs, e, cap * size⟩ : Ow)]).eraseIdx (own0.length + 0) = own0 := by
        rw [List.eraseIdx_append_of_length_le (by omega)]
        simp
      rwa [e1] at h4
theorem T.pubG {k : List It} {ex : Option Nat} {e : TypeId} {size len : Nat} {v : Value} {cs : List Value} {own0 G : Own} (hg : GrowS e size v len cs G) (h : ∀ X', X.le X' → SliceR X' v len cs → T ro P n w0 X0 Q k ex env own0 X') : T ro P n w0 X0 Q k ex env (own0 ++ G) X := by
  intro a W ha hs
  obtain ⟨X', h1, h2, h3⟩ := hs.pubG hg
  exact h X' h1 h2 a W ha h3
theorem T.pubGAt {ops : Array Oper} {l : List Oper} {e : TypeId} {size len : Nat} {v : Value} {cs : List Value} {own0 G : Own} (hg : GrowS e size v len cs G) (h : ∀ X', X.le X' → SliceR X' v len cs → SL ro P n w0 X0 ops Q l env own0 X') : SL ro P n w0 X0 ops Q l env (own0 ++ G) X := by
  intro a W ha hs
  obtain ⟨X', h1, h2, h3⟩ := hs.pubG hg
  exact h X' h1 h2 a W ha h3
end
end Go.Proofs.YtmfiencoefbjfaaGreatDoor
namespace Go.Proofs.YtmfiencoefbjfaaGreatDoor
open Go.RowKit
section
variable {P : Program} {n : NM} {w0 : Base} {X0 X : PMap} {own : Own} {env : Env} {ops : Array Oper} {Q : Exit → Act → World → Prop} {ro : Option Nat}
theorem SL.v {l : List Oper} {d : Option Tmp} {op : Op} {ty : TypeId} {pos : String} {af : Array Edge} {g : Option (Nat × Bool)} {v : Value} (h : OpY P n env own X op v)
    (h' : SL ro P n w0 X0 ops Q l (eput env d v) own X) (hg : gwant ops env g = some true := by rfl) (hd : (dok n d && noDefer op) = true := by rfl) : SL ro P n w0 X0 ops Q (⟨d, op, ty, pos, af, g⟩ :: l) env own X := SL.y h hg hd h'
theorem SL.mv {l : List Oper} {d : Option Tmp} {x : Operand} {ty : TypeId} {pos : String} {af : Array Edge} {g : Option (Nat × Bool)} {v : Value} (h : eev env x = some v)
    (h' : SL ro P n w0 X0 ops Q l (eput env d v) own X) (hg : gwant ops env g = some true := by rfl) (hd : dok n d = true := by rfl) : SL ro P n w0 X0 ops Q (⟨d, .move x, ty, pos, af, g⟩ :: l) env own X := SL.y (op_move h) hg (by rw [hd]; rfl) h'
theorem SL.as {l : List Oper} {d : Option Tmp} {x : Operand} {ty : TypeId} {pos : String} {af : Array Edge} {g : Option (Nat × Bool)} {v : Value} (h : eev env x = some v)
    (h' : SL ro P n w0 X0 ops Q l (eput env d v) own X) (hg : gwant ops env g = some true := by rfl) (hd : dok n d = true := by rfl) : SL ro P n w0 X0 ops Q (⟨d, .assign x, ty, pos, af, g⟩ :: l) env own X := SL.y (op_assign h) hg (by rw [hd]; rfl) h'
theorem SL.w {l : List Oper} {d : Option Tmp} {op : Op} {ty : TypeId} {pos : String} {af : Array Edge} {g : Option (Nat × Bool)} {k : Value → Own → PMap → Prop} {gr : Bool} (h : OpX P n w0 X0 env own X op gr k)
    (h' : ∀ v own' X', k v own' X' → SL ro P n w0 X0 ops Q l (eput env d v) own' X') (hg : gwant ops env g = some true := by rfl) (hd : dok n d = true := by rfl) : SL ro P n w0 X0 ops Q (⟨d, op, ty, pos, af, g⟩ :: l) env own X := SL.x h hg hd h'
end
end Go.Proofs.YtmfiencoefbjfaaGreatDoor
namespace Go.Proofs.YtmfiencoefbjfaaGreatDoor
set_option maxRecDepth 100000
end Go.Proofs.YtmfiencoefbjfaaGreatDoor
namespace Go.Proofs.YtmfiencoefbjfaaGreatDoor
section
set_option maxRecDepth 100000
theorem en41 : Enters Tryz.prog 41 := enters_mk Tryz.func41 (by kernel_rfl) rfl
theorem en74 : Enters Tryz.prog 74 := enters_mk Tryz.func74 (by kernel_rfl) rfl
theorem fa65_0 : FAdr Tryz.prog 65 0 0 := fadr_mk Tryz.underlying65 rfl rfl (by kernel_rfl)
theorem mk63 : ∃ i, Tryz.prog.info? 108 = some i ∧ i.size = 1 ∧ i.bytes = 8 ∧ i.zero = some (.int .u64 0) := mk_of (by kernel_rfl)
theorem z65 : Zero Tryz.prog 65 [.slice none 0 0] := ⟨zero_of (by kernel_rfl)⟩
theorem st65 : StT Tryz.prog 65 [(0, 1)] [.slice none 0 0] := ⟨⟨_, Tryz.underlying65, fun _ => by kernel_rfl, z65⟩⟩
theorem ty108 : Ty Tryz.prog 108 false 1 := ⟨⟨_, Tryz.underlying108, rfl⟩, by kernel_rfl⟩
theorem ty63 : Ty Tryz.prog 63 false 1 := ⟨⟨_, Tryz.underlying63, rfl⟩, by kernel_rfl⟩
theorem ty65 : Ty Tryz.prog 65 true 1 := ⟨⟨_, Tryz.underlying65, rfl⟩, by kernel_rfl⟩
end
/-- v is the set with the mask m: no word, or one word that is not zero. -/
def SetR (X : PMap) (v : Value) (m : Nat) : Prop :=
  (m = 0 ∧ ∃ A c, v = .agg #[.slice A 0 c]) ∨
  (0 < m ∧ m < 18446744073709551616 ∧ ∃ b c rest, v = .agg #[.slice (some ⟨b, 0, none⟩) 1 c] ∧ Blk X b (.int .u64 m :: rest))
theorem SetR.mono {X X' : PMap} {v : Value} {m : Nat} (h : SetR X v m) (hX : X.le X') : SetR X' v m := by
  rcases h with h | ⟨h0, h1, b, c, r, hv, hb⟩
  · exact .inl h
  · exact .inr ⟨h0, h1, b, c, r, hv, hb.mono hX⟩

theorem SetR.form {X : PMap} {v : Value} {m : Nat} (h : SetR X v m) : ∃ A l c, v = .agg #[.slice A l c] := by
  rcases h with ⟨_, A, c, rfl⟩ | ⟨_, _, b, c, _, rfl, _⟩
  · exact ⟨A, 0, c, rfl⟩
  · exact ⟨_, 1, c, rfl⟩
theorem SetR.lt {X : PMap} {v : Value} {m : Nat} (h : SetR X v m) : m < 18446744073709551616 := by
  rcases h with ⟨rfl, _⟩ | ⟨_, h, _⟩ <;> omega

theorem word_spec {X : PMap} {v : Value} {m : Nat} (h : SetR X v m) (k w : Nat) (hw : (if k = 0 then m else 0) = w) : Spec Tryz.prog 74 [v, .int .i64 (k : Int)] X fun u _ => u = .int .u64 (w : Int) := by
  subst hw
  rcases h with ⟨rfl, A, c, rfl⟩ | ⟨h0, h1, b, c, rest, rfl, hB⟩
  · refine Spec.enter Tryz.func74 rfl Tryz.ntmps74 rfl ?_
    intro w0 hw0
    refine T.seq <| T.region <| SL.w (op_box rfl) ?_
    rintro _ _ _ ⟨B2, rfl, rfl, rfl⟩
    refine SL.v (op_assign (v := .int .u64 ((0 : Nat) : Int)) rfl) <| SL.nil <| T.seq <| T.seq <| T.region <| SL.mv rfl <| SL.v (op_fieldAddr fa65_0 rfl) <| SL.v (op_load ty63 rfl (by repeat constructor) rfl) ?_
    refine SL.v (op_lenS Tryz.underlying63 rfl) <| SL.v (op_lssF rfl rfl (by omega)) ?_
    refine SL.nil <| T.condF rfl <| T.skip <| T.seq <| T.region <| SL.v (op_assign (v := .int .u64 ((0 : Nat) : Int)) rfl) <| SL.nil <| T.ret1 rfl (ResIs.tmp rfl) ?_
    simp
  · by_cases hk : k = 0
    · subst hk
      refine Spec.enter Tryz.func74 rfl Tryz.ntmps74 rfl ?_
      intro w0 hw0
      refine T.seq <| T.region <| SL.w (op_box rfl) ?_
      rintro _ _ _ ⟨B2, rfl, rfl, rfl⟩
      refine SL.v (op_assign (v := .int .u64 ((0 : Nat) : Int)) rfl) <| SL.nil <| T.seq <| T.seq <| T.region <| SL.mv rfl <| SL.v (op_fieldAddr fa65_0 rfl) <| SL.v (op_load ty63 rfl (by repeat constructor) rfl) ?_
      refine SL.v (op_lenS Tryz.underlying63 rfl) <| SL.v (op_lssT rfl rfl (by omega)) ?_
      refine SL.nil <| T.condT rfl <| T.seq <| T.region <| SL.v (op_fieldAddr fa65_0 rfl) <| SL.v (op_load ty63 rfl (by repeat constructor) rfl) ?_
      refine SL.mv rfl <| SL.v (op_indexN Tryz.underlying63 ty108 rfl rfl (by omega)) ?_
      refine SL.v (op_loadX ty108 rfl (by assumption) rfl) ?_
      refine SL.as rfl <| SL.nil <| T.ret1 rfl (ResIs.tmp rfl) ?_
      simp
    · refine Spec.enter Tryz.func74 rfl Tryz.ntmps74 rfl ?_
      intro w0 hw0
      refine T.seq <| T.region <| SL.w (op_box rfl) ?_
      rintro _ _ _ ⟨B2, rfl, rfl, rfl⟩
      refine SL.v (op_assign (v := .int .u64 ((0 : Nat) : Int)) rfl) <| SL.nil <| T.seq <| T.seq <| T.region <| SL.mv rfl <| SL.v (op_fieldAddr fa65_0 rfl) <| SL.v (op_load ty63 rfl (by repeat constructor) rfl) ?_
      refine SL.v (op_lenS Tryz.underlying63 rfl) <| SL.v (op_lssF rfl rfl (by omega)) ?_
      refine SL.nil <| T.condF rfl <| T.skip <| T.seq <| T.region <| SL.v (op_assign (v := .int .u64 ((0 : Nat) : Int)) rfl) <| SL.nil <| T.ret1 rfl (ResIs.tmp rfl) ?_
      simp [hk]

/-- Is i a member of the set with the mask m? -/
def hasB (m : Nat) (i : Int) : Bool := decide (0 ≤ i) && m.testBit i.toNat
theorem testBit_big {m k : Nat} (h : m < 18446744073709551616) (hk : 64 ≤ k) : m.testBit k = false := by
  exact Nat.testBit_lt_two_pow (Nat.lt_of_lt_of_le (show m < 2 ^ 64 from h) (Nat.pow_le_pow_right (by omega) hk))
theorem shr_and_one (m k : Nat) : (m >>> k &&& 1) = if m.testBit k then 1 else 0 := by
  rw [Nat.and_one_is_mod, Nat.testBit_eq_decide_div_mod_eq, Nat.shiftRight_eq_div_pow]
  have := Nat.mod_two_eq_zero_or_one (m / 2 ^ k)
  rcases this with h | h <;> simp [h]

theorem has_spec {X : PMap} {v : Value} {m : Nat} (h : SetR X v m) (i : Int) : Spec Tryz.prog 63 [v, .int .i64 i] X fun u _ => u = .bool (hasB m i) := by
  have hlt := h.lt
  obtain ⟨A, l, c, rfl⟩ := h.form
  by_cases h0 : i < 0
  · refine Spec.enter Tryz.func63 rfl Tryz.ntmps63 rfl ?_
    intro w0 hw0
    refine T.seq <| T.region <| SL.w (op_box rfl) ?_
    rintro _ _ _ ⟨B2, rfl, rfl, rfl⟩
    refine SL.as rfl <| SL.nil <| T.seq <| T.region <| SL.mv rfl <| SL.v (op_geqF rfl rfl (by omega)) ?_
    refine SL.mv rfl <| SL.skip rfl rfl ?_
    refine SL.skip rfl rfl ?_
    refine SL.v (op_pickF rfl rfl) <| SL.mv rfl <| SL.skip rfl rfl ?_
    refine SL.skip rfl rfl ?_
    refine SL.skip rfl rfl ?_
    refine SL.skip rfl rfl ?_
    refine SL.skip rfl rfl ?_
    refine SL.skip rfl rfl ?_
    refine SL.skip rfl rfl ?_
    refine SL.skip rfl rfl ?_
    refine SL.skip rfl rfl ?_
    refine SL.v (op_pickF rfl rfl) <| SL.as rfl <| SL.nil <| T.ret1 rfl (ResIs.tmp rfl) ?_
    simp [hasB]; omega
  · obtain ⟨k, rfl⟩ := Int.eq_ofNat_of_zero_le (show 0 ≤ i by omega)
    by_cases h1 : 4095 < k
    · refine Spec.enter Tryz.func63 rfl Tryz.ntmps63 rfl ?_
      intro w0 hw0
      refine T.seq <| T.region <| SL.w (op_box rfl) ?_
      rintro _ _ _ ⟨B2, rfl, rfl, rfl⟩
      refine SL.as rfl <| SL.nil <| T.seq <| T.region <| SL.mv rfl <| SL.v (op_geqT rfl rfl (by omega)) ?_
      refine SL.mv rfl <| SL.mv rfl <| SL.v (op_leqF rfl rfl (by omega)) ?_
      refine SL.v (op_pickT rfl rfl) <| SL.mv rfl <| SL.skip rfl rfl ?_
      refine SL.skip rfl rfl ?_
      refine SL.skip rfl rfl ?_
      refine SL.skip rfl rfl ?_
      refine SL.skip rfl rfl ?_
      refine SL.skip rfl rfl ?_
      refine SL.skip rfl rfl ?_
      refine SL.skip rfl rfl ?_
      refine SL.skip rfl rfl ?_
      refine SL.v (op_pickF rfl rfl) <| SL.as rfl <| SL.nil <| T.ret1 rfl (ResIs.tmp rfl) ?_
      simp [hasB, testBit_big hlt (show 64 ≤ k by omega)]
    · by_cases h2 : k < 64
      · have hsh : m >>> k < 18446744073709551616 := Nat.lt_of_le_of_lt (Nat.shiftRight_le ..) hlt
        refine Spec.enter Tryz.func63 rfl Tryz.ntmps63 rfl ?_
        intro w0 hw0
        refine T.seq <| T.region <| SL.w (op_box rfl) ?_
        rintro _ _ _ ⟨B2, rfl, rfl, rfl⟩
        refine SL.as rfl <| SL.nil <| T.seq <| T.region <| SL.mv rfl <| SL.v (op_geqT rfl rfl (by omega)) ?_
        refine SL.mv rfl <| SL.mv rfl <| SL.v (op_leqT rfl rfl (by omega)) ?_
        refine SL.v (op_pickT rfl rfl) <| SL.mv rfl <| SL.v (op_load ty65 rfl (by repeat constructor) rfl) ?_
        refine SL.mv rfl <| SL.v (op_quo0 (q := 64) rfl rfl rfl (by omega) (by omega)) ?_
        refine SL.w (op_callF en74 (vs := [_, _]) rfl (word_spec h _ m (if_pos (by omega)))) ?_
        rintro _ _ X1 ⟨rfl, hX1, rfl⟩
        refine SL.mv rfl <| SL.v (op_remS (q := 64) rfl rfl rfl (by omega)) ?_
        refine SL.v (op_shrN rfl rfl (by omega)) ?_
        refine SL.v (op_and (q := 1) rfl rfl (by first | omega | assumption | decide | exact Nat.lt_of_le_of_lt (Nat.shiftRight_le ..) (by first | omega | assumption) | exact Nat.lt_of_le_of_lt Nat.and_le_left (by first | omega | assumption) | exact Nat.lt_of_le_of_lt Nat.and_le_right (by first | omega | decide)) (by first | omega | assumption | decide | exact Nat.lt_of_le_of_lt (Nat.shiftRight_le ..) (by first | omega | assumption) | exact Nat.lt_of_le_of_lt Nat.and_le_left (by first | omega | assumption) | exact Nat.lt_of_le_of_lt Nat.and_le_right (by first | omega | decide))) ?_
        refine SL.v (op_eql rfl rfl) <| SL.v (op_pickT rfl rfl) <| SL.as rfl <| SL.nil <| T.ret1 rfl (ResIs.tmp rfl) ?_
        rw [shr_and_one]
        cases hb : m.testBit k <;> simp [hasB, hb]
      · have hsh : 0 >>> (k % 64) < 18446744073709551616 := by simp
        refine Spec.enter Tryz.func63 rfl Tryz.ntmps63 rfl ?_
        intro w0 hw0
        refine T.seq <| T.region <| SL.w (op_box rfl) ?_
        rintro _ _ _ ⟨B2, rfl, rfl, rfl⟩
        refine SL.as rfl <| SL.nil <| T.seq <| T.region <| SL.mv rfl <| SL.v (op_geqT rfl rfl (by omega)) ?_
        refine SL.mv rfl <| SL.mv rfl <| SL.v (op_leqT rfl rfl (by omega)) ?_
        refine SL.v (op_pickT rfl rfl) <| SL.mv rfl <| SL.v (op_load ty65 rfl (by repeat constructor) rfl) ?_
        refine SL.mv rfl <| SL.v (op_quoN (q := 64) rfl rfl rfl (by omega) (by decide)) ?_
        refine SL.w (op_callF en74 (vs := [_, _]) rfl (word_spec h _ 0 (if_neg (by omega)))) ?_
        rintro _ _ X1 ⟨rfl, hX1, rfl⟩
        refine SL.mv rfl <| SL.v (op_remN (q := 64) rfl rfl rfl (by decide)) ?_
        refine SL.v (op_shrN rfl rfl (by omega)) ?_
        refine SL.v (op_and (q := 1) rfl rfl (by first | omega | assumption | decide | exact Nat.lt_of_le_of_lt (Nat.shiftRight_le ..) (by first | omega | assumption) | exact Nat.lt_of_le_of_lt Nat.and_le_left (by first | omega | assumption) | exact Nat.lt_of_le_of_lt Nat.and_le_right (by first | omega | decide)) (by first | omega | assumption | decide | exact Nat.lt_of_le_of_lt (Nat.shiftRight_le ..) (by first | omega | assumption) | exact Nat.lt_of_le_of_lt Nat.and_le_left (by first | omega | assumption) | exact Nat.lt_of_le_of_lt Nat.and_le_right (by first | omega | decide))) ?_
        refine SL.v (op_eql rfl rfl) <| SL.v (op_pickT rfl rfl) <| SL.as rfl <| SL.nil <| T.ret1 rfl (ResIs.tmp rfl) ?_
        simp [hasB, testBit_big hlt (show 64 ≤ k by omega)]

theorem SetR.zero {X : PMap} {A : Option Addr} {c : Nat} : SetR X (.agg #[.slice A 0 c]) 0 := .inl ⟨rfl, A, c, rfl⟩
theorem SetR.one {X : PMap} {b c m : Nat} {rest : List Value} (h0 : m ≠ 0) (h : m < 18446744073709551616) (hB : Blk X b (.int .u64 m :: rest)) : SetR X (.agg #[.slice (some ⟨b, 0, none⟩) 1 c]) m := .inr ⟨Nat.pos_of_ne_zero h0, h, b, c, rest, rfl, hB⟩

theorem trim0_spec {X : PMap} (A : Option Addr) (c : Nat) : Spec Tryz.prog 41 [.slice A 0 c] X fun u X' => SetR X' u 0 := by
  refine Spec.enter Tryz.func41 rfl Tryz.ntmps41 rfl ?_
  intro w0 hw0
  refine T.seq <| T.region <| SL.w (op_alloc z65) ?_
  rintro _ _ _ ⟨B2, rfl, rfl, rfl⟩
  refine SL.nil <| T.seq <| T.block <| T.unrollStart 1 ?_
  refine T.unroll ?_
  refine T.seq <| T.seq <| T.region <| SL.mv rfl <| SL.v (op_lenS Tryz.underlying63 rfl) <| SL.v (op_gtrF rfl rfl (by omega)) ?_
  refine SL.mv rfl <| SL.skip rfl rfl ?_
  refine SL.skip rfl rfl ?_
  refine SL.skip rfl rfl ?_
  refine SL.skip rfl rfl ?_
  refine SL.skip rfl rfl ?_
  refine SL.skip rfl rfl ?_
  refine SL.skip rfl rfl ?_
  refine SL.v (op_pickF rfl rfl) <| SL.nil <| T.condF rfl ?_
  refine T.exit (T.exitCode (T.exitMore (T.exitBlk ?_)))
  refine T.seq <| T.region <| SL.mv rfl <| SL.v (op_build st65 (qs := [(0, _)]) rfl rfl) <| SL.w (op_store ty65 rfl rfl (by repeat constructor) rfl rfl rfl) ?_
  rintro _ _ _ ⟨rfl, rfl⟩
  refine SL.nil <| T.ret1 rfl (ResIs.cell rfl ty65 (by repeat constructor) rfl) ?_
  exact SetR.zero
theorem trim1_spec {X : PMap} {b c m : Nat} {rest : List Value} (hm : m < 18446744073709551616) (hB : Blk X b (.int .u64 m :: rest)) (hc : 1 ≤ c) : Spec Tryz.prog 41 [.slice (some ⟨b, 0, none⟩) 1 c] X fun u X' => SetR X' u m := by
  by_cases h0 : m = 0
  · subst h0
    refine Spec.enter Tryz.func41 rfl Tryz.ntmps41 rfl ?_
    intro w0 hw0
    refine T.seq <| T.region <| SL.w (op_alloc z65) ?_
    rintro _ _ _ ⟨B2, rfl, rfl, rfl⟩
    refine SL.nil <| T.seq <| T.block <| T.unrollStart 2 ?_
    refine T.unroll ?_
    refine T.seq <| T.seq <| T.region <| SL.mv rfl <| SL.v (op_lenS Tryz.underlying63 rfl) <| SL.v (op_gtrT rfl rfl (by omega)) ?_
    refine SL.mv rfl <| SL.mv rfl <| SL.mv rfl <| SL.v (op_lenS Tryz.underlying63 rfl) <| SL.v (op_subN (q := 1) rfl rfl (by omega) (by omega)) ?_
    refine SL.v (op_indexN Tryz.underlying63 ty108 rfl rfl (by omega)) ?_
    refine SL.v (op_loadX ty108 rfl (by assumption) rfl) ?_
    refine SL.v (op_eqlT rfl rfl (by omega)) ?_
    refine SL.v (op_pickT rfl rfl) <| SL.nil <| T.condT rfl <| T.skip <| T.block <| T.region <| SL.mv rfl <| SL.mv rfl <| SL.v (op_lenS Tryz.underlying63 rfl) <| SL.v (op_subN (q := 1) rfl rfl (by omega) (by omega)) ?_
    refine SL.v (op_slice (l := 0) (h := 0) Tryz.underlying63 ty108 rfl (fun _ h => by cases h) (fun _ => rfl) (fun _ h => by cases h; exact ⟨_, rfl⟩) (fun h => by cases h) (Nat.le_refl _) (by omega)) ?_
    refine SL.as rfl <| SL.nil <| T.blk <| T.unroll ?_
    refine T.seq <| T.seq <| T.region <| SL.mv rfl <| SL.v (op_lenS Tryz.underlying63 rfl) <| SL.v (op_gtrF rfl rfl (by omega)) ?_
    refine SL.mv rfl <| SL.skip rfl rfl ?_
    refine SL.skip rfl rfl ?_
    refine SL.skip rfl rfl ?_
    refine SL.skip rfl rfl ?_
    refine SL.skip rfl rfl ?_
    refine SL.skip rfl rfl ?_
    refine SL.skip rfl rfl ?_
    refine SL.v (op_pickF rfl rfl) <| SL.nil <| T.condF rfl ?_
    refine T.exit (T.exitCode (T.exitMore (T.exitBlk ?_)))
    refine T.seq <| T.region <| SL.mv rfl <| SL.v (op_build st65 (qs := [(0, _)]) rfl rfl) <| SL.w (op_store ty65 rfl rfl (by repeat constructor) rfl rfl rfl) ?_
    rintro _ _ _ ⟨rfl, rfl⟩
    refine SL.nil <| T.ret1 rfl (ResIs.cell rfl ty65 (by repeat constructor) rfl) ?_
    exact SetR.zero
  · refine Spec.enter Tryz.func41 rfl Tryz.ntmps41 rfl ?_
    intro w0 hw0
    refine T.seq <| T.region <| SL.w (op_alloc z65) ?_
    rintro _ _ _ ⟨B2, rfl, rfl, rfl⟩
    refine SL.nil <| T.seq <| T.block <| T.unrollStart 1 ?_
    refine T.unroll ?_
    refine T.seq <| T.seq <| T.region <| SL.mv rfl <| SL.v (op_lenS Tryz.underlying63 rfl) <| SL.v (op_gtrT rfl rfl (by omega)) ?_
    refine SL.mv rfl <| SL.mv rfl <| SL.mv rfl <| SL.v (op_lenS Tryz.underlying63 rfl) <| SL.v (op_subN (q := 1) rfl rfl (by omega) (by omega)) ?_
    refine SL.v (op_indexN Tryz.underlying63 ty108 rfl rfl (by omega)) ?_
    refine SL.v (op_loadX ty108 rfl (by assumption) rfl) ?_
    refine SL.v (op_eqlF rfl rfl (by omega)) ?_
    refine SL.v (op_pickT rfl rfl) <| SL.nil <| T.condF rfl ?_
    refine T.exit (T.exitCode (T.exitMore (T.exitBlk ?_)))
    refine T.seq <| T.region <| SL.mv rfl <| SL.v (op_build st65 (qs := [(0, _)]) rfl rfl) <| SL.w (op_store ty65 rfl rfl (by repeat constructor) rfl rfl rfl) ?_
    rintro _ _ _ ⟨rfl, rfl⟩
    refine SL.nil <| T.ret1 rfl (ResIs.cell rfl ty65 (by repeat constructor) rfl) ?_
    exact SetR.one h0 hm hB

theorem empty_spec {X : PMap} {v : Value} {m : Nat} (h : SetR X v m) : Spec Tryz.prog 49 [v] X fun u _ => u = .bool (decide (m = 0)) := by
  rcases h with ⟨rfl, A, c, rfl⟩ | ⟨h0, h1, b, c, rest, rfl, hB⟩
  · refine Spec.enter Tryz.func49 rfl Tryz.ntmps49 rfl ?_
    intro w0 hw0
    refine T.seq <| T.region <| SL.w (op_box rfl) ?_
    rintro _ _ _ ⟨B1, rfl, rfl, rfl⟩
    refine SL.as rfl <| SL.nil <| T.seq <| T.region <| SL.v (op_fieldAddr fa65_0 rfl) <| SL.v (op_load ty63 rfl (by repeat constructor) rfl) ?_
    refine SL.v (op_lenS Tryz.underlying63 rfl) <| SL.v (op_eqlT rfl rfl (by omega)) ?_
    refine SL.as rfl <| SL.nil <| T.ret1 rfl (ResIs.tmp rfl) ?_
    simp
  · refine Spec.enter Tryz.func49 rfl Tryz.ntmps49 rfl ?_
    intro w0 hw0
    refine T.seq <| T.region <| SL.w (op_box rfl) ?_
    rintro _ _ _ ⟨B1, rfl, rfl, rfl⟩
    refine SL.as rfl <| SL.nil <| T.seq <| T.region <| SL.v (op_fieldAddr fa65_0 rfl) <| SL.v (op_load ty63 rfl (by repeat constructor) rfl) ?_
    refine SL.v (op_lenS Tryz.underlying63 rfl) <| SL.v (op_eqlF rfl rfl (by omega)) ?_
    refine SL.as rfl <| SL.nil <| T.ret1 rfl (ResIs.tmp rfl) ?_
    simp; omega

theorem equal_spec {X : PMap} {v v' : Value} {m m' : Nat} (h : SetR X v m) (h' : SetR X v' m') : Spec Tryz.prog 58 [v, v'] X fun u _ => u = .bool (decide (m = m')) := by
  rcases h with ⟨rfl, A, c, rfl⟩ | ⟨h0, h1, b, c, rest, rfl, hB⟩ <;> rcases h' with ⟨rfl, A', c', rfl⟩ | ⟨h0', h1', b', c', rest', rfl, hB'⟩
  · refine Spec.enter Tryz.func58 rfl Tryz.ntmps58 rfl ?_
    intro w0 hw0
    refine T.seq <| T.region <| SL.w (op_box rfl) ?_
    rintro _ _ _ ⟨B2, rfl, rfl, rfl⟩
    refine SL.w (op_box rfl) ?_
    rintro _ _ _ ⟨B3, rfl, rfl, rfl⟩
    refine SL.as rfl <| SL.nil <| T.seq <| T.seq <| T.region <| SL.v (op_fieldAddr fa65_0 rfl) <| SL.v (op_load ty63 rfl (by repeat constructor) rfl) ?_
    refine SL.v (op_lenS Tryz.underlying63 rfl) <| SL.v (op_fieldAddr fa65_0 rfl) <| SL.v (op_load ty63 rfl (by repeat constructor) rfl) ?_
    refine SL.v (op_lenS Tryz.underlying63 rfl) <| SL.v (op_neqF rfl rfl (by omega)) ?_
    refine SL.nil <| T.condF rfl <| T.skip <| T.seq <| T.seq <| T.region <| SL.v (op_fieldAddr fa65_0 rfl) <| SL.v (op_load ty63 rfl (by repeat constructor) rfl) ?_
    refine SL.v (op_lenS Tryz.underlying63 rfl) <| SL.v (op_move (v := .int .i64 ((0 : Nat) : Int)) rfl) <| SL.nil <| T.block <| T.unrollStart 1 ?_
    refine T.unroll ?_
    refine T.seq <| T.region <| SL.v (op_lssF rfl rfl (by omega)) ?_
    refine SL.nil <| T.seq <| T.condF rfl ?_
    refine T.exit (T.exitCode (T.exitMore (T.exitBlk ?_)))
    refine T.seq <| T.region <| SL.as rfl <| SL.nil <| T.ret1 rfl (ResIs.tmp rfl) ?_
    simp
  · refine Spec.enter Tryz.func58 rfl Tryz.ntmps58 rfl ?_
    intro w0 hw0
    refine T.seq <| T.region <| SL.w (op_box rfl) ?_
    rintro _ _ _ ⟨B2, rfl, rfl, rfl⟩
    refine SL.w (op_box rfl) ?_
    rintro _ _ _ ⟨B3, rfl, rfl, rfl⟩
    refine SL.as rfl <| SL.nil <| T.seq <| T.seq <| T.region <| SL.v (op_fieldAddr fa65_0 rfl) <| SL.v (op_load ty63 rfl (by repeat constructor) rfl) ?_
    refine SL.v (op_lenS Tryz.underlying63 rfl) <| SL.v (op_fieldAddr fa65_0 rfl) <| SL.v (op_load ty63 rfl (by repeat constructor) rfl) ?_
    refine SL.v (op_lenS Tryz.underlying63 rfl) <| SL.v (op_neqT rfl rfl (by omega)) ?_
    refine SL.nil <| T.condT rfl <| T.seq <| T.region <| SL.as rfl <| SL.nil <| T.ret1 rfl (ResIs.tmp rfl) ?_
    simp; omega
  · refine Spec.enter Tryz.func58 rfl Tryz.ntmps58 rfl ?_
    intro w0 hw0
    refine T.seq <| T.region <| SL.w (op_box rfl) ?_
    rintro _ _ _ ⟨B2, rfl, rfl, rfl⟩
    refine SL.w (op_box rfl) ?_
    rintro _ _ _ ⟨B3, rfl, rfl, rfl⟩
    refine SL.as rfl <| SL.nil <| T.seq <| T.seq <| T.region <| SL.v (op_fieldAddr fa65_0 rfl) <| SL.v (op_load ty63 rfl (by repeat constructor) rfl) ?_
    refine SL.v (op_lenS Tryz.underlying63 rfl) <| SL.v (op_fieldAddr fa65_0 rfl) <| SL.v (op_load ty63 rfl (by repeat constructor) rfl) ?_
    refine SL.v (op_lenS Tryz.underlying63 rfl) <| SL.v (op_neqT rfl rfl (by omega)) ?_
    refine SL.nil <| T.condT rfl <| T.seq <| T.region <| SL.as rfl <| SL.nil <| T.ret1 rfl (ResIs.tmp rfl) ?_
    simp; omega
  · by_cases hm : m = m'
    · refine Spec.enter Tryz.func58 rfl Tryz.ntmps58 rfl ?_
      intro w0 hw0
      refine T.seq <| T.region <| SL.w (op_box rfl) ?_
      rintro _ _ _ ⟨B2, rfl, rfl, rfl⟩
      refine SL.w (op_box rfl) ?_
      rintro _ _ _ ⟨B3, rfl, rfl, rfl⟩
      refine SL.as rfl <| SL.nil <| T.seq <| T.seq <| T.region <| SL.v (op_fieldAddr fa65_0 rfl) <| SL.v (op_load ty63 rfl (by repeat constructor) rfl) ?_
      refine SL.v (op_lenS Tryz.underlying63 rfl) <| SL.v (op_fieldAddr fa65_0 rfl) <| SL.v (op_load ty63 rfl (by repeat constructor) rfl) ?_
      refine SL.v (op_lenS Tryz.underlying63 rfl) <| SL.v (op_neqF rfl rfl (by omega)) ?_
      refine SL.nil <| T.condF rfl <| T.skip <| T.seq <| T.seq <| T.region <| SL.v (op_fieldAddr fa65_0 rfl) <| SL.v (op_load ty63 rfl (by repeat constructor) rfl) ?_
      refine SL.v (op_lenS Tryz.underlying63 rfl) <| SL.v (op_move (v := .int .i64 ((0 : Nat) : Int)) rfl) <| SL.nil <| T.block <| T.unrollStart 2 ?_
      refine T.unroll ?_
      refine T.seq <| T.region <| SL.v (op_lssT rfl rfl (by omega)) ?_
      refine SL.nil <| T.seq <| T.condT rfl <| T.skip <| T.seq <| T.block <| T.seq <| T.region <| SL.mv rfl <| SL.v (op_indexN Tryz.underlying63 ty108 rfl rfl (by omega)) ?_
      refine SL.v (op_loadX ty108 rfl (by assumption) rfl) ?_
      refine SL.as rfl <| SL.as rfl <| SL.nil <| T.seq <| T.region <| SL.mv rfl <| SL.v (op_fieldAddr fa65_0 rfl) <| SL.v (op_load ty63 rfl (by repeat constructor) rfl) ?_
      refine SL.mv rfl <| SL.v (op_indexN Tryz.underlying63 ty108 rfl rfl (by omega)) ?_
      refine SL.v (op_loadX ty108 rfl (by assumption) rfl) ?_
      refine SL.v (op_neqF rfl rfl (by omega)) ?_
      refine SL.nil <| T.condF rfl <| T.skip <| T.blk <| T.region <| SL.v (op_addN (q := 1) rfl rfl (by omega)) ?_
      refine SL.mv rfl <| SL.nil <| T.unroll ?_
      refine T.seq <| T.region <| SL.v (op_lssF rfl rfl (by omega)) ?_
      refine SL.nil <| T.seq <| T.condF rfl ?_
      refine T.exit (T.exitCode (T.exitMore (T.exitBlk ?_)))
      refine T.seq <| T.region <| SL.as rfl <| SL.nil <| T.ret1 rfl (ResIs.tmp rfl) ?_
      simp [hm]
    · refine Spec.enter Tryz.func58 rfl Tryz.ntmps58 rfl ?_
      intro w0 hw0
      refine T.seq <| T.region <| SL.w (op_box rfl) ?_
      rintro _ _ _ ⟨B2, rfl, rfl, rfl⟩
      refine SL.w (op_box rfl) ?_
      rintro _ _ _ ⟨B3, rfl, rfl, rfl⟩
      refine SL.as rfl <| SL.nil <| T.seq <| T.seq <| T.region <| SL.v (op_fieldAddr fa65_0 rfl) <| SL.v (op_load ty63 rfl (by repeat constructor) rfl) ?_
      refine SL.v (op_lenS Tryz.underlying63 rfl) <| SL.v (op_fieldAddr fa65_0 rfl) <| SL.v (op_load ty63 rfl (by repeat constructor) rfl) ?_
      refine SL.v (op_lenS Tryz.underlying63 rfl) <| SL.v (op_neqF rfl rfl (by omega)) ?_
      refine SL.nil <| T.condF rfl <| T.skip <| T.seq <| T.seq <| T.region <| SL.v (op_fieldAddr fa65_0 rfl) <| SL.v (op_load ty63 rfl (by repeat constructor) rfl) ?_
      refine SL.v (op_lenS Tryz.underlying63 rfl) <| SL.v (op_move (v := .int .i64 ((0 : Nat) : Int)) rfl) <| SL.nil <| T.block <| T.unrollStart 2 ?_
      refine T.unroll ?_
      refine T.seq <| T.region <| SL.v (op_lssT rfl rfl (by omega)) ?_
      refine SL.nil <| T.seq <| T.condT rfl <| T.skip <| T.seq <| T.block <| T.seq <| T.region <| SL.mv rfl <| SL.v (op_indexN Tryz.underlying63 ty108 rfl rfl (by omega)) ?_
      refine SL.v (op_loadX ty108 rfl (by assumption) rfl) ?_
      refine SL.as rfl <| SL.as rfl <| SL.nil <| T.seq <| T.region <| SL.mv rfl <| SL.v (op_fieldAddr fa65_0 rfl) <| SL.v (op_load ty63 rfl (by repeat constructor) rfl) ?_
      refine SL.mv rfl <| SL.v (op_indexN Tryz.underlying63 ty108 rfl rfl (by omega)) ?_
      refine SL.v (op_loadX ty108 rfl (by assumption) rfl) ?_
      refine SL.v (op_neqT rfl rfl (by omega)) ?_
      refine SL.nil <| T.condT rfl <| T.seq <| T.region <| SL.as rfl <| SL.nil <| T.ret1 rfl (ResIs.tmp rfl) ?_
      simp [hm]

theorem within_spec {X : PMap} {v v' : Value} {m m' : Nat} (h : SetR X v m) (h' : SetR X v' m') : Spec Tryz.prog 44 [v, v'] X fun u _ => u = .bool (decide (m &&& (18446744073709551615 - m') = 0)) := by
  have hlt' := h'.lt
  rcases h with ⟨rfl, A, c, rfl⟩ | ⟨h0, h1, b, c, rest, rfl, hB⟩
  · obtain ⟨A', l', c', rfl⟩ := h'.form
    refine Spec.enter Tryz.func44 rfl Tryz.ntmps44 rfl ?_
    intro w0 hw0
    refine T.seq <| T.region <| SL.w (op_box rfl) ?_
    rintro _ _ _ ⟨B2, rfl, rfl, rfl⟩
    refine SL.w (op_box rfl) ?_
    rintro _ _ _ ⟨B3, rfl, rfl, rfl⟩
    refine SL.as rfl <| SL.nil <| T.seq <| T.seq <| T.region <| SL.v (op_fieldAddr fa65_0 rfl) <| SL.v (op_load ty63 rfl (by repeat constructor) rfl) ?_
    refine SL.v (op_lenS Tryz.underlying63 rfl) <| SL.v (op_move (v := .int .i64 ((0 : Nat) : Int)) rfl) <| SL.nil <| T.block <| T.unrollStart 1 ?_
    refine T.unroll ?_
    refine T.seq <| T.region <| SL.v (op_lssF rfl rfl (by omega)) ?_
    refine SL.nil <| T.seq <| T.condF rfl ?_
    refine T.exit (T.exitCode (T.exitMore (T.exitBlk ?_)))
    refine T.seq <| T.region <| SL.as rfl <| SL.nil <| T.ret1 rfl (ResIs.tmp rfl) ?_
    simp
  · obtain ⟨A', l', c', rfl⟩ := h'.form
    by_cases hm : m &&& (18446744073709551615 - m') = 0
    · refine Spec.enter Tryz.func44 rfl Tryz.ntmps44 rfl ?_
      intro w0 hw0
      refine T.seq <| T.region <| SL.w (op_box rfl) ?_
      rintro _ _ _ ⟨B2, rfl, rfl, rfl⟩
      refine SL.w (op_box rfl) ?_
      rintro _ _ _ ⟨B3, rfl, rfl, rfl⟩
      refine SL.as rfl <| SL.nil <| T.seq <| T.seq <| T.region <| SL.v (op_fieldAddr fa65_0 rfl) <| SL.v (op_load ty63 rfl (by repeat constructor) rfl) ?_
      refine SL.v (op_lenS Tryz.underlying63 rfl) <| SL.v (op_move (v := .int .i64 ((0 : Nat) : Int)) rfl) <| SL.nil <| T.block <| T.unrollStart 2 ?_
      refine T.unroll ?_
      refine T.seq <| T.region <| SL.v (op_lssT rfl rfl (by omega)) ?_
      refine SL.nil <| T.seq <| T.condT rfl <| T.skip <| T.seq <| T.block <| T.seq <| T.region <| SL.mv rfl <| SL.v (op_indexN Tryz.underlying63 ty108 rfl rfl (by omega)) ?_
      refine SL.v (op_loadX ty108 rfl (by assumption) rfl) ?_
      refine SL.as rfl <| SL.as rfl <| SL.nil <| T.seq <| T.region <| SL.mv rfl <| SL.v (op_load ty65 rfl (by repeat constructor) rfl) ?_
      refine SL.mv rfl <| SL.w (op_callF en74 (vs := [_, _]) rfl (word_spec (k := 0) h' m' (if_pos rfl))) ?_
      rintro _ _ X1 ⟨rfl, hX1, rfl⟩
      refine SL.v (op_andNot rfl rfl (by first | omega | assumption | decide | exact Nat.lt_of_le_of_lt (Nat.shiftRight_le ..) (by first | omega | assumption) | exact Nat.lt_of_le_of_lt Nat.and_le_left (by first | omega | assumption) | exact Nat.lt_of_le_of_lt Nat.and_le_right (by first | omega | decide)) (by first | omega | assumption | decide | exact Nat.lt_of_le_of_lt (Nat.shiftRight_le ..) (by first | omega | assumption) | exact Nat.lt_of_le_of_lt Nat.and_le_left (by first | omega | assumption) | exact Nat.lt_of_le_of_lt Nat.and_le_right (by first | omega | decide))) ?_
      refine SL.v (op_neqF rfl rfl (by omega)) ?_
      refine SL.nil <| T.condF rfl <| T.skip <| T.blk <| T.region <| SL.v (op_addN (q := 1) rfl rfl (by omega)) ?_
      refine SL.mv rfl <| SL.nil <| T.unroll ?_
      refine T.seq <| T.region <| SL.v (op_lssF rfl rfl (by omega)) ?_
      refine SL.nil <| T.seq <| T.condF rfl ?_
      refine T.exit (T.exitCode (T.exitMore (T.exitBlk ?_)))
      refine T.seq <| T.region <| SL.as rfl <| SL.nil <| T.ret1 rfl (ResIs.tmp rfl) ?_
      simp [hm]
    · refine Spec.enter Tryz.func44 rfl Tryz.ntmps44 rfl ?_
      intro w0 hw0
      refine T.seq <| T.region <| SL.w (op_box rfl) ?_
      rintro _ _ _ ⟨B2, rfl, rfl, rfl⟩
      refine SL.w (op_box rfl) ?_
      rintro _ _ _ ⟨B3, rfl, rfl, rfl⟩
      refine SL.as rfl <| SL.nil <| T.seq <| T.seq <| T.region <| SL.v (op_fieldAddr fa65_0 rfl) <| SL.v (op_load ty63 rfl (by repeat constructor) rfl) ?_
      refine SL.v (op_lenS Tryz.underlying63 rfl) <| SL.v (op_move (v := .int .i64 ((0 : Nat) : Int)) rfl) <| SL.nil <| T.block <| T.unrollStart 2 ?_
      refine T.unroll ?_
      refine T.seq <| T.region <| SL.v (op_lssT rfl rfl (by omega)) ?_
      refine SL.nil <| T.seq <| T.condT rfl <| T.skip <| T.seq <| T.block <| T.seq <| T.region <| SL.mv rfl <| SL.v (op_indexN Tryz.underlying63 ty108 rfl rfl (by omega)) ?_
      refine SL.v (op_loadX ty108 rfl (by assumption) rfl) ?_
      refine SL.as rfl <| SL.as rfl <| SL.nil <| T.seq <| T.region <| SL.mv rfl <| SL.v (op_load ty65 rfl (by repeat constructor) rfl) ?_
      refine SL.mv rfl <| SL.w (op_callF en74 (vs := [_, _]) rfl (word_spec (k := 0) h' m' (if_pos rfl))) ?_
      rintro _ _ X1 ⟨rfl, hX1, rfl⟩
      refine SL.v (op_andNot rfl rfl (by first | omega | assumption | decide | exact Nat.lt_of_le_of_lt (Nat.shiftRight_le ..) (by first | omega | assumption) | exact Nat.lt_of_le_of_lt Nat.and_le_left (by first | omega | assumption) | exact Nat.lt_of_le_of_lt Nat.and_le_right (by first | omega | decide)) (by first | omega | assumption | decide | exact Nat.lt_of_le_of_lt (Nat.shiftRight_le ..) (by first | omega | assumption) | exact Nat.lt_of_le_of_lt Nat.and_le_left (by first | omega | assumption) | exact Nat.lt_of_le_of_lt Nat.and_le_right (by first | omega | decide))) ?_
      refine SL.v (op_neqT rfl rfl (by omega)) ?_
      refine SL.nil <| T.condT rfl <| T.seq <| T.region <| SL.as rfl <| SL.nil <| T.ret1 rfl (ResIs.tmp rfl) ?_
      simp [hm]

theorem or_spec {X : PMap} {v v' : Value} {m m' : Nat} (h : SetR X v m) (h' : SetR X v' m') : Spec Tryz.prog 67 [v, v'] X fun u X' => SetR X' u (m ||| m') := by
  have hl : m ||| m' < 18446744073709551616 := Nat.or_lt_two_pow (n := 64) h.lt h'.lt
  have hlt := h.lt
  have hlt' := h'.lt
  rcases h with ⟨rfl, A, c, rfl⟩ | ⟨h0, h1, b, c, rest, rfl, hB⟩ <;> rcases h' with ⟨rfl, A', c', rfl⟩ | ⟨h0', h1', b', c', rest', rfl, hB'⟩
  · refine Spec.enter Tryz.func67 rfl Tryz.ntmps67 rfl ?_
    intro w0 hw0
    refine T.seq <| T.region <| SL.w (op_box rfl) ?_
    rintro _ _ _ ⟨B2, rfl, rfl, rfl⟩
    refine SL.w (op_box rfl) ?_
    rintro _ _ _ ⟨B3, rfl, rfl, rfl⟩
    refine SL.w (op_alloc z65) ?_
    rintro _ _ _ ⟨B4, rfl, rfl, rfl⟩
    refine SL.nil <| T.seq <| T.region <| SL.v (op_fieldAddr fa65_0 rfl) <| SL.v (op_load ty63 rfl (by repeat constructor) rfl) ?_
    refine SL.v (op_lenS Tryz.underlying63 rfl) <| SL.v (op_fieldAddr fa65_0 rfl) <| SL.v (op_load ty63 rfl (by repeat constructor) rfl) ?_
    refine SL.v (op_lenS Tryz.underlying63 rfl) <| SL.v (op_maxL rfl rfl (by omega)) ?_
    refine SL.w (op_make Tryz.underlying63 mk63 rfl rfl rfl (Nat.le_refl _) (by omega) (by omega)) ?_
    rintro _ _ _ ⟨B14, rfl, rfl, rfl⟩
    refine SL.as rfl <| SL.nil <| T.seq <| T.seq <| T.region <| SL.mv rfl <| SL.v (op_lenS Tryz.underlying63 rfl) <| SL.v (op_move (v := .int .i64 ((0 : Nat) : Int)) rfl) <| SL.nil <| T.block <| T.unrollStart 1 ?_
    refine T.unroll ?_
    refine T.seq <| T.region <| SL.v (op_lssF rfl rfl (by omega)) ?_
    refine SL.nil <| T.seq <| T.condF rfl ?_
    refine T.exit (T.exitCode (T.exitMore (T.exitBlk ?_)))
    refine T.seq <| T.region <| SL.mv rfl <| SL.v (op_build st65 (qs := [(0, _)]) rfl rfl) <| SL.w (op_store ty65 rfl rfl (by repeat constructor) rfl rfl rfl) ?_
    rintro _ _ _ ⟨rfl, rfl⟩
    refine SL.nil <| T.ret1 rfl (ResIs.cell rfl ty65 (by repeat constructor) rfl) ?_
    exact SetR.zero
  · have g : SetR X (.agg #[.slice A 0 c]) 0 := SetR.zero
    have g' : SetR X (.agg #[.slice (some ⟨b', 0, none⟩) 1 c']) m' := SetR.one (by omega) h1' hB'
    refine Spec.enter Tryz.func67 rfl Tryz.ntmps67 rfl ?_
    intro w0 hw0
    refine T.seq <| T.region <| SL.w (op_box rfl) ?_
    rintro _ _ _ ⟨B2, rfl, rfl, rfl⟩
    refine SL.w (op_box rfl) ?_
    rintro _ _ _ ⟨B3, rfl, rfl, rfl⟩
    refine SL.w (op_alloc z65) ?_
    rintro _ _ _ ⟨B4, rfl, rfl, rfl⟩
    refine SL.nil <| T.seq <| T.region <| SL.v (op_fieldAddr fa65_0 rfl) <| SL.v (op_load ty63 rfl (by repeat constructor) rfl) ?_
    refine SL.v (op_lenS Tryz.underlying63 rfl) <| SL.v (op_fieldAddr fa65_0 rfl) <| SL.v (op_load ty63 rfl (by repeat constructor) rfl) ?_
    refine SL.v (op_lenS Tryz.underlying63 rfl) <| SL.v (op_maxR rfl rfl (by omega)) ?_
    refine SL.w (op_make Tryz.underlying63 mk63 rfl rfl rfl (Nat.le_refl _) (by omega) (by omega)) ?_
    rintro _ _ _ ⟨B14, rfl, rfl, rfl⟩
    refine SL.as rfl <| SL.nil <| T.seq <| T.seq <| T.region <| SL.mv rfl <| SL.v (op_lenS Tryz.underlying63 rfl) <| SL.v (op_move (v := .int .i64 ((0 : Nat) : Int)) rfl) <| SL.nil <| T.block <| T.unrollStart 2 ?_
    refine T.unroll ?_
    refine T.seq <| T.region <| SL.v (op_lssT rfl rfl (by omega)) ?_
    refine SL.nil <| T.seq <| T.condT rfl <| T.skip <| T.seq <| T.block <| T.seq <| T.region <| SL.mv rfl <| SL.as rfl <| SL.nil <| T.draw (by kernel_rfl) 10 [.t 0, .t 1, .t 2, .t 3, .t 5, .t 6, .r 4, .r 7, .t 8, .t 9] (by kernel_rfl) ?_
    refine SD.take rfl panicBody (op_move rfl) rfl rfl ?_
    refine SD.take rfl panicBody (op_move rfl) rfl rfl ?_
    refine SD.take rfl panicBody (op_load ty65 rfl (by repeat constructor) rfl) rfl rfl ?_
    refine SD.take rfl panicBody (op_move rfl) rfl rfl ?_
    refine SD.take rfl panicBody (op_load ty65 rfl (by repeat constructor) rfl) rfl rfl ?_
    refine SD.take rfl panicBody (op_move rfl) rfl rfl ?_
    refine SD.run rfl (op_callF en74 (vs := [_, _]) rfl (word_spec (k := 0) g 0 (if_pos rfl))) rfl rfl ?_
    rintro _ _ X1 ⟨rfl, hX1, rfl⟩
    refine SD.run rfl (op_callF en74 (vs := [_, _]) rfl (word_spec (k := 0) (g'.mono hX1) m' (if_pos rfl))) rfl rfl ?_
    rintro _ _ X2 ⟨rfl, hX2, rfl⟩
    refine SD.take rfl panicBody (op_or rfl rfl (by first | omega | assumption | decide | exact Nat.lt_of_le_of_lt (Nat.shiftRight_le ..) (by first | omega | assumption) | exact Nat.lt_of_le_of_lt Nat.and_le_left (by first | omega | assumption) | exact Nat.lt_of_le_of_lt Nat.and_le_right (by first | omega | decide)) (by first | omega | assumption | decide | exact Nat.lt_of_le_of_lt (Nat.shiftRight_le ..) (by first | omega | assumption) | exact Nat.lt_of_le_of_lt Nat.and_le_left (by first | omega | assumption) | exact Nat.lt_of_le_of_lt Nat.and_le_right (by first | omega | decide))) rfl rfl ?_
    refine SD.take rfl panicBody (op_indexN Tryz.underlying63 ty108 rfl rfl (by omega)) rfl rfl ?_
    refine SD.nil ?_
    show SL _ _ _ _ _ _ _ [_] _ _ _
    refine SL.w (op_store ty108 rfl rfl (by repeat constructor) rfl rfl rfl) ?_
    rintro _ _ _ ⟨rfl, rfl⟩
    refine SL.nil <| T.blk <| T.region <| SL.v (op_addN (q := 1) rfl rfl (by omega)) ?_
    refine SL.mv rfl <| SL.nil <| T.unroll ?_
    refine T.seq <| T.region <| SL.v (op_lssF rfl rfl (by omega)) ?_
    refine SL.nil <| T.seq <| T.condF rfl ?_
    refine T.exit (T.exitCode (T.exitMore (T.exitBlk ?_)))
    refine T.seq <| T.region <| SL.mv rfl <| SL.v (op_build st65 (qs := [(0, _)]) rfl rfl) <| SL.w (op_store ty65 rfl rfl (by repeat constructor) rfl rfl rfl) ?_
    rintro _ _ _ ⟨rfl, rfl⟩
    refine SL.nil <| T.pub _ (by repeat constructor) ?_
    intro X3 hX3 hB3 _
    refine T.ret1 rfl (ResIs.cell rfl ty65 (by repeat constructor) rfl) ?_
    exact SetR.one (by simp; omega) hl hB3
  · have g : SetR X (.agg #[.slice (some ⟨b, 0, none⟩) 1 c]) m := SetR.one (by omega) h1 hB
    have g' : SetR X (.agg #[.slice A' 0 c']) 0 := SetR.zero
    refine Spec.enter Tryz.func67 rfl Tryz.ntmps67 rfl ?_
    intro w0 hw0
    refine T.seq <| T.region <| SL.w (op_box rfl) ?_
    rintro _ _ _ ⟨B2, rfl, rfl, rfl⟩
    refine SL.w (op_box rfl) ?_
    rintro _ _ _ ⟨B3, rfl, rfl, rfl⟩
    refine SL.w (op_alloc z65) ?_
    rintro _ _ _ ⟨B4, rfl, rfl, rfl⟩
    refine SL.nil <| T.seq <| T.region <| SL.v (op_fieldAddr fa65_0 rfl) <| SL.v (op_load ty63 rfl (by repeat constructor) rfl) ?_
    refine SL.v (op_lenS Tryz.underlying63 rfl) <| SL.v (op_fieldAddr fa65_0 rfl) <| SL.v (op_load ty63 rfl (by repeat constructor) rfl) ?_
    refine SL.v (op_lenS Tryz.underlying63 rfl) <| SL.v (op_maxL rfl rfl (by omega)) ?_
    refine SL.w (op_make Tryz.underlying63 mk63 rfl rfl rfl (Nat.le_refl _) (by omega) (by omega)) ?_
    rintro _ _ _ ⟨B14, rfl, rfl, rfl⟩
    refine SL.as rfl <| SL.nil <| T.seq <| T.seq <| T.region <| SL.mv rfl <| SL.v (op_lenS Tryz.underlying63 rfl) <| SL.v (op_move (v := .int .i64 ((0 : Nat) : Int)) rfl) <| SL.nil <| T.block <| T.unrollStart 2 ?_
    refine T.unroll ?_
    refine T.seq <| T.region <| SL.v (op_lssT rfl rfl (by omega)) ?_
    refine SL.nil <| T.seq <| T.condT rfl <| T.skip <| T.seq <| T.block <| T.seq <| T.region <| SL.mv rfl <| SL.as rfl <| SL.nil <| T.draw (by kernel_rfl) 10 [.t 0, .t 1, .t 2, .t 3, .t 5, .t 6, .r 4, .r 7, .t 8, .t 9] (by kernel_rfl) ?_
    refine SD.take rfl panicBody (op_move rfl) rfl rfl ?_
    refine SD.take rfl panicBody (op_move rfl) rfl rfl ?_
    refine SD.take rfl panicBody (op_load ty65 rfl (by repeat constructor) rfl) rfl rfl ?_
    refine SD.take rfl panicBody (op_move rfl) rfl rfl ?_
    refine SD.take rfl panicBody (op_load ty65 rfl (by repeat constructor) rfl) rfl rfl ?_
    refine SD.take rfl panicBody (op_move rfl) rfl rfl ?_
    refine SD.run rfl (op_callF en74 (vs := [_, _]) rfl (word_spec (k := 0) g m (if_pos rfl))) rfl rfl ?_
    rintro _ _ X1 ⟨rfl, hX1, rfl⟩
    refine SD.run rfl (op_callF en74 (vs := [_, _]) rfl (word_spec (k := 0) (g'.mono hX1) 0 (if_pos rfl))) rfl rfl ?_
    rintro _ _ X2 ⟨rfl, hX2, rfl⟩
    refine SD.take rfl panicBody (op_or rfl rfl (by first | omega | assumption | decide | exact Nat.lt_of_le_of_lt (Nat.shiftRight_le ..) (by first | omega | assumption) | exact Nat.lt_of_le_of_lt Nat.and_le_left (by first | omega | assumption) | exact Nat.lt_of_le_of_lt Nat.and_le_right (by first | omega | decide)) (by first | omega | assumption | decide | exact Nat.lt_of_le_of_lt (Nat.shiftRight_le ..) (by first | omega | assumption) | exact Nat.lt_of_le_of_lt Nat.and_le_left (by first | omega | assumption) | exact Nat.lt_of_le_of_lt Nat.and_le_right (by first | omega | decide))) rfl rfl ?_
    refine SD.take rfl panicBody (op_indexN Tryz.underlying63 ty108 rfl rfl (by omega)) rfl rfl ?_
    refine SD.nil ?_
    show SL _ _ _ _ _ _ _ [_] _ _ _
    refine SL.w (op_store ty108 rfl rfl (by repeat constructor) rfl rfl rfl) ?_
    rintro _ _ _ ⟨rfl, rfl⟩
    refine SL.nil <| T.blk <| T.region <| SL.v (op_addN (q := 1) rfl rfl (by omega)) ?_
    refine SL.mv rfl <| SL.nil <| T.unroll ?_
    refine T.seq <| T.region <| SL.v (op_lssF rfl rfl (by omega)) ?_
    refine SL.nil <| T.seq <| T.condF rfl ?_
    refine T.exit (T.exitCode (T.exitMore (T.exitBlk ?_)))
    refine T.seq <| T.region <| SL.mv rfl <| SL.v (op_build st65 (qs := [(0, _)]) rfl rfl) <| SL.w (op_store ty65 rfl rfl (by repeat constructor) rfl rfl rfl) ?_
    rintro _ _ _ ⟨rfl, rfl⟩
    refine SL.nil <| T.pub _ (by repeat constructor) ?_
    intro X3 hX3 hB3 _
    refine T.ret1 rfl (ResIs.cell rfl ty65 (by repeat constructor) rfl) ?_
    exact SetR.one (by simp; omega) hl hB3
  · have g : SetR X (.agg #[.slice (some ⟨b, 0, none⟩) 1 c]) m := SetR.one (by omega) h1 hB
    have g' : SetR X (.agg #[.slice (some ⟨b', 0, none⟩) 1 c']) m' := SetR.one (by omega) h1' hB'
    refine Spec.enter Tryz.func67 rfl Tryz.ntmps67 rfl ?_
    intro w0 hw0
    refine T.seq <| T.region <| SL.w (op_box rfl) ?_
    rintro _ _ _ ⟨B2, rfl, rfl, rfl⟩
    refine SL.w (op_box rfl) ?_
    rintro _ _ _ ⟨B3, rfl, rfl, rfl⟩
    refine SL.w (op_alloc z65) ?_
    rintro _ _ _ ⟨B4, rfl, rfl, rfl⟩
    refine SL.nil <| T.seq <| T.region <| SL.v (op_fieldAddr fa65_0 rfl) <| SL.v (op_load ty63 rfl (by repeat constructor) rfl) ?_
    refine SL.v (op_lenS Tryz.underlying63 rfl) <| SL.v (op_fieldAddr fa65_0 rfl) <| SL.v (op_load ty63 rfl (by repeat constructor) rfl) ?_
    refine SL.v (op_lenS Tryz.underlying63 rfl) <| SL.v (op_maxL rfl rfl (by omega)) ?_
    refine SL.w (op_make Tryz.underlying63 mk63 rfl rfl rfl (Nat.le_refl _) (by omega) (by omega)) ?_
    rintro _ _ _ ⟨B14, rfl, rfl, rfl⟩
    refine SL.as rfl <| SL.nil <| T.seq <| T.seq <| T.region <| SL.mv rfl <| SL.v (op_lenS Tryz.underlying63 rfl) <| SL.v (op_move (v := .int .i64 ((0 : Nat) : Int)) rfl) <| SL.nil <| T.block <| T.unrollStart 2 ?_
    refine T.unroll ?_
    refine T.seq <| T.region <| SL.v (op_lssT rfl rfl (by omega)) ?_
    refine SL.nil <| T.seq <| T.condT rfl <| T.skip <| T.seq <| T.block <| T.seq <| T.region <| SL.mv rfl <| SL.as rfl <| SL.nil <| T.draw (by kernel_rfl) 10 [.t 0, .t 1, .t 2, .t 3, .t 5, .t 6, .r 4, .r 7, .t 8, .t 9] (by kernel_rfl) ?_
    refine SD.take rfl panicBody (op_move rfl) rfl rfl ?_
    refine SD.take rfl panicBody (op_move rfl) rfl rfl ?_
    refine SD.take rfl panicBody (op_load ty65 rfl (by repeat constructor) rfl) rfl rfl ?_
    refine SD.take rfl panicBody (op_move rfl) rfl rfl ?_
    refine SD.take rfl panicBody (op_load ty65 rfl (by repeat constructor) rfl) rfl rfl ?_
    refine SD.take rfl panicBody (op_move rfl) rfl rfl ?_
    refine SD.run rfl (op_callF en74 (vs := [_, _]) rfl (word_spec (k := 0) g m (if_pos rfl))) rfl rfl ?_
    rintro _ _ X1 ⟨rfl, hX1, rfl⟩
    refine SD.run rfl (op_callF en74 (vs := [_, _]) rfl (word_spec (k := 0) (g'.mono hX1) m' (if_pos rfl))) rfl rfl ?_
    rintro _ _ X2 ⟨rfl, hX2, rfl⟩
    refine SD.take rfl panicBody (op_or rfl rfl (by first | omega | assumption | decide | exact Nat.lt_of_le_of_lt (Nat.shiftRight_le ..) (by first | omega | assumption) | exact Nat.lt_of_le_of_lt Nat.and_le_left (by first | omega | assumption) | exact Nat.lt_of_le_of_lt Nat.and_le_right (by first | omega | decide)) (by first | omega | assumption | decide | exact Nat.lt_of_le_of_lt (Nat.shiftRight_le ..) (by first | omega | assumption) | exact Nat.lt_of_le_of_lt Nat.and_le_left (by first | omega | assumption) | exact Nat.lt_of_le_of_lt Nat.and_le_right (by first | omega | decide))) rfl rfl ?_
    refine SD.take rfl panicBody (op_indexN Tryz.underlying63 ty108 rfl rfl (by omega)) rfl rfl ?_
    refine SD.nil ?_
    show SL _ _ _ _ _ _ _ [_] _ _ _
    refine SL.w (op_store ty108 rfl rfl (by repeat constructor) rfl rfl rfl) ?_
    rintro _ _ _ ⟨rfl, rfl⟩
    refine SL.nil <| T.blk <| T.region <| SL.v (op_addN (q := 1) rfl rfl (by omega)) ?_
    refine SL.mv rfl <| SL.nil <| T.unroll ?_
    refine T.seq <| T.region <| SL.v (op_lssF rfl rfl (by omega)) ?_
    refine SL.nil <| T.seq <| T.condF rfl ?_
    refine T.exit (T.exitCode (T.exitMore (T.exitBlk ?_)))
    refine T.seq <| T.region <| SL.mv rfl <| SL.v (op_build st65 (qs := [(0, _)]) rfl rfl) <| SL.w (op_store ty65 rfl rfl (by repeat constructor) rfl rfl rfl) ?_
    rintro _ _ _ ⟨rfl, rfl⟩
    refine SL.nil <| T.pub _ (by repeat constructor) ?_
    intro X3 hX3 hB3 _
    refine T.ret1 rfl (ResIs.cell rfl ty65 (by repeat constructor) rfl) ?_
    exact SetR.one (by intro e; have := Nat.or_eq_zero_iff.1 e; omega) hl hB3

theorem and_spec {X : PMap} {v v' : Value} {m m' : Nat} (h : SetR X v m) (h' : SetR X v' m') : Spec Tryz.prog 88 [v, v'] X fun u X' => SetR X' u (m &&& m') := by
  have hlt := h.lt
  have hlt' := h'.lt
  have hl : m &&& m' < 18446744073709551616 := Nat.lt_of_le_of_lt Nat.and_le_left hlt
  rcases h with ⟨rfl, A, c, rfl⟩ | ⟨h0, h1, b, c, rest, rfl, hB⟩ <;> rcases h' with ⟨rfl, A', c', rfl⟩ | ⟨h0', h1', b', c', rest', rfl, hB'⟩
  · simp only [Nat.and_self]
    refine Spec.enter Tryz.func88 rfl Tryz.ntmps88 rfl ?_
    intro w0 hw0
    refine T.seq <| T.region <| SL.w (op_box rfl) ?_
    rintro _ _ _ ⟨B2, rfl, rfl, rfl⟩
    refine SL.w (op_box rfl) ?_
    rintro _ _ _ ⟨B3, rfl, rfl, rfl⟩
    refine SL.w (op_alloc z65) ?_
    rintro _ _ _ ⟨B4, rfl, rfl, rfl⟩
    refine SL.nil <| T.seq <| T.region <| SL.v (op_fieldAddr fa65_0 rfl) <| SL.v (op_load ty63 rfl (by repeat constructor) rfl) ?_
    refine SL.v (op_lenS Tryz.underlying63 rfl) <| SL.v (op_fieldAddr fa65_0 rfl) <| SL.v (op_load ty63 rfl (by repeat constructor) rfl) ?_
    refine SL.v (op_lenS Tryz.underlying63 rfl) <| SL.v (op_minL rfl rfl (by omega)) ?_
    refine SL.w (op_make Tryz.underlying63 mk63 rfl rfl rfl (Nat.le_refl _) (by omega) (by omega)) ?_
    rintro _ _ _ ⟨B14, rfl, rfl, rfl⟩
    refine SL.as rfl <| SL.nil <| T.seq <| T.seq <| T.region <| SL.mv rfl <| SL.v (op_lenS Tryz.underlying63 rfl) <| SL.v (op_move (v := .int .i64 ((0 : Nat) : Int)) rfl) <| SL.nil <| T.block <| T.unrollStart 1 ?_
    refine T.unroll ?_
    refine T.seq <| T.region <| SL.v (op_lssF rfl rfl (by omega)) ?_
    refine SL.nil <| T.seq <| T.condF rfl ?_
    refine T.exit (T.exitCode (T.exitMore (T.exitBlk ?_)))
    refine T.seq <| T.region <| SL.mv rfl <| SL.w (op_callF en41 (vs := [_]) rfl (trim0_spec _ _)) ?_
    rintro _ _ X1 ⟨rfl, hX1, hS⟩
    obtain ⟨A1, l1, c1, rfl⟩ := hS.form
    refine SL.w (op_store ty65 rfl rfl (by repeat constructor) rfl rfl rfl) ?_
    rintro _ _ _ ⟨rfl, rfl⟩
    refine SL.nil <| T.ret1 rfl (ResIs.cell rfl ty65 (by repeat constructor) rfl) ?_
    exact hS
  · simp only [Nat.zero_and]
    refine Spec.enter Tryz.func88 rfl Tryz.ntmps88 rfl ?_
    intro w0 hw0
    refine T.seq <| T.region <| SL.w (op_box rfl) ?_
    rintro _ _ _ ⟨B2, rfl, rfl, rfl⟩
    refine SL.w (op_box rfl) ?_
    rintro _ _ _ ⟨B3, rfl, rfl, rfl⟩
    refine SL.w (op_alloc z65) ?_
    rintro _ _ _ ⟨B4, rfl, rfl, rfl⟩
    refine SL.nil <| T.seq <| T.region <| SL.v (op_fieldAddr fa65_0 rfl) <| SL.v (op_load ty63 rfl (by repeat constructor) rfl) ?_
    refine SL.v (op_lenS Tryz.underlying63 rfl) <| SL.v (op_fieldAddr fa65_0 rfl) <| SL.v (op_load ty63 rfl (by repeat constructor) rfl) ?_
    refine SL.v (op_lenS Tryz.underlying63 rfl) <| SL.v (op_minL rfl rfl (by omega)) ?_
    refine SL.w (op_make Tryz.underlying63 mk63 rfl rfl rfl (Nat.le_refl _) (by omega) (by omega)) ?_
    rintro _ _ _ ⟨B14, rfl, rfl, rfl⟩
    refine SL.as rfl <| SL.nil <| T.seq <| T.seq <| T.region <| SL.mv rfl <| SL.v (op_lenS Tryz.underlying63 rfl) <| SL.v (op_move (v := .int .i64 ((0 : Nat) : Int)) rfl) <| SL.nil <| T.block <| T.unrollStart 1 ?_
    refine T.unroll ?_
    refine T.seq <| T.region <| SL.v (op_lssF rfl rfl (by omega)) ?_
    refine SL.nil <| T.seq <| T.condF rfl ?_
    refine T.exit (T.exitCode (T.exitMore (T.exitBlk ?_)))
    refine T.seq <| T.region <| SL.mv rfl <| SL.w (op_callF en41 (vs := [_]) rfl (trim0_spec _ _)) ?_
    rintro _ _ X1 ⟨rfl, hX1, hS⟩
    obtain ⟨A1, l1, c1, rfl⟩ := hS.form
    refine SL.w (op_store ty65 rfl rfl (by repeat constructor) rfl rfl rfl) ?_
    rintro _ _ _ ⟨rfl, rfl⟩
    refine SL.nil <| T.ret1 rfl (ResIs.cell rfl ty65 (by repeat constructor) rfl) ?_
    exact hS
  · simp only [Nat.and_zero]
    refine Spec.enter Tryz.func88 rfl Tryz.ntmps88 rfl ?_
    intro w0 hw0
    refine T.seq <| T.region <| SL.w (op_box rfl) ?_
    rintro _ _ _ ⟨B2, rfl, rfl, rfl⟩
    refine SL.w (op_box rfl) ?_
    rintro _ _ _ ⟨B3, rfl, rfl, rfl⟩
    refine SL.w (op_alloc z65) ?_
    rintro _ _ _ ⟨B4, rfl, rfl, rfl⟩
    refine SL.nil <| T.seq <| T.region <| SL.v (op_fieldAddr fa65_0 rfl) <| SL.v (op_load ty63 rfl (by repeat constructor) rfl) ?_
    refine SL.v (op_lenS Tryz.underlying63 rfl) <| SL.v (op_fieldAddr fa65_0 rfl) <| SL.v (op_load ty63 rfl (by repeat constructor) rfl) ?_
    refine SL.v (op_lenS Tryz.underlying63 rfl) <| SL.v (op_minR rfl rfl (by omega)) ?_
    refine SL.w (op_make Tryz.underlying63 mk63 rfl rfl rfl (Nat.le_refl _) (by omega) (by omega)) ?_
    rintro _ _ _ ⟨B14, rfl, rfl, rfl⟩
    refine SL.as rfl <| SL.nil <| T.seq <| T.seq <| T.region <| SL.mv rfl <| SL.v (op_lenS Tryz.underlying63 rfl) <| SL.v (op_move (v := .int .i64 ((0 : Nat) : Int)) rfl) <| SL.nil <| T.block <| T.unrollStart 1 ?_
    refine T.unroll ?_
    refine T.seq <| T.region <| SL.v (op_lssF rfl rfl (by omega)) ?_
    refine SL.nil <| T.seq <| T.condF rfl ?_
    refine T.exit (T.exitCode (T.exitMore (T.exitBlk ?_)))
    refine T.seq <| T.region <| SL.mv rfl <| SL.w (op_callF en41 (vs := [_]) rfl (trim0_spec _ _)) ?_
    rintro _ _ X1 ⟨rfl, hX1, hS⟩
    obtain ⟨A1, l1, c1, rfl⟩ := hS.form
    refine SL.w (op_store ty65 rfl rfl (by repeat constructor) rfl rfl rfl) ?_
    rintro _ _ _ ⟨rfl, rfl⟩
    refine SL.nil <| T.ret1 rfl (ResIs.cell rfl ty65 (by repeat constructor) rfl) ?_
    exact hS
  · refine Spec.enter Tryz.func88 rfl Tryz.ntmps88 rfl ?_
    intro w0 hw0
    refine T.seq <| T.region <| SL.w (op_box rfl) ?_
    rintro _ _ _ ⟨B2, rfl, rfl, rfl⟩
    refine SL.w (op_box rfl) ?_
    rintro _ _ _ ⟨B3, rfl, rfl, rfl⟩
    refine SL.w (op_alloc z65) ?_
    rintro _ _ _ ⟨B4, rfl, rfl, rfl⟩
    refine SL.nil <| T.seq <| T.region <| SL.v (op_fieldAddr fa65_0 rfl) <| SL.v (op_load ty63 rfl (by repeat constructor) rfl) ?_
    refine SL.v (op_lenS Tryz.underlying63 rfl) <| SL.v (op_fieldAddr fa65_0 rfl) <| SL.v (op_load ty63 rfl (by repeat constructor) rfl) ?_
    refine SL.v (op_lenS Tryz.underlying63 rfl) <| SL.v (op_minL rfl rfl (by omega)) ?_
    refine SL.w (op_make Tryz.underlying63 mk63 rfl rfl rfl (Nat.le_refl _) (by omega) (by omega)) ?_
    rintro _ _ _ ⟨B14, rfl, rfl, rfl⟩
    refine SL.as rfl <| SL.nil <| T.seq <| T.seq <| T.region <| SL.mv rfl <| SL.v (op_lenS Tryz.underlying63 rfl) <| SL.v (op_move (v := .int .i64 ((0 : Nat) : Int)) rfl) <| SL.nil <| T.block <| T.unrollStart 2 ?_
    refine T.unroll ?_
    refine T.seq <| T.region <| SL.v (op_lssT rfl rfl (by omega)) ?_
    refine SL.nil <| T.seq <| T.condT rfl <| T.skip <| T.seq <| T.block <| T.seq <| T.region <| SL.mv rfl <| SL.as rfl <| SL.nil <| T.draw (by kernel_rfl) 14 [.t 0, .t 1, .t 2, .t 3, .t 4, .t 5, .t 6, .t 7, .t 8, .t 9, .t 10, .t 11, .t 12, .t 13] (by kernel_rfl) ?_
    refine SD.take rfl panicBody (op_move rfl) rfl rfl ?_
    refine SD.take rfl panicBody (op_move rfl) rfl rfl ?_
    refine SD.take rfl panicBody (op_fieldAddr fa65_0 rfl) rfl rfl ?_
    refine SD.take rfl panicBody (op_load ty63 rfl (by repeat constructor) rfl) rfl rfl ?_
    refine SD.take rfl panicBody (op_move rfl) rfl rfl ?_
    refine SD.take rfl panicBody (op_indexN Tryz.underlying63 ty108 rfl rfl (by omega)) rfl rfl ?_
    refine SD.take rfl panicBody (op_loadX ty108 rfl (by assumption) rfl) rfl rfl ?_
    refine SD.take rfl panicBody (op_fieldAddr fa65_0 rfl) rfl rfl ?_
    refine SD.take rfl panicBody (op_load ty63 rfl (by repeat constructor) rfl) rfl rfl ?_
    refine SD.take rfl panicBody (op_move rfl) rfl rfl ?_
    refine SD.take rfl panicBody (op_indexN Tryz.underlying63 ty108 rfl rfl (by omega)) rfl rfl ?_
    refine SD.take rfl panicBody (op_loadX ty108 rfl (by assumption) rfl) rfl rfl ?_
    refine SD.take rfl panicBody (op_and rfl rfl (by first | omega | assumption | decide | exact Nat.lt_of_le_of_lt (Nat.shiftRight_le ..) (by first | omega | assumption) | exact Nat.lt_of_le_of_lt Nat.and_le_left (by first | omega | assumption) | exact Nat.lt_of_le_of_lt Nat.and_le_right (by first | omega | decide)) (by first | omega | assumption | decide | exact Nat.lt_of_le_of_lt (Nat.shiftRight_le ..) (by first | omega | assumption) | exact Nat.lt_of_le_of_lt Nat.and_le_left (by first | omega | assumption) | exact Nat.lt_of_le_of_lt Nat.and_le_right (by first | omega | decide))) rfl rfl ?_
    refine SD.take rfl panicBody (op_indexN Tryz.underlying63 ty108 rfl rfl (by omega)) rfl rfl ?_
    refine SD.nil ?_
    show SL _ _ _ _ _ _ _ [_] _ _ _
    refine SL.w (op_store ty108 rfl rfl (by repeat constructor) rfl rfl rfl) ?_
    rintro _ _ _ ⟨rfl, rfl⟩
    refine SL.nil <| T.blk <| T.region <| SL.v (op_addN (q := 1) rfl rfl (by omega)) ?_
    refine SL.mv rfl <| SL.nil <| T.unroll ?_
    refine T.seq <| T.region <| SL.v (op_lssF rfl rfl (by omega)) ?_
    refine SL.nil <| T.seq <| T.condF rfl ?_
    refine T.exit (T.exitCode (T.exitMore (T.exitBlk ?_)))
    refine T.seq <| T.region <| SL.mv rfl <| T.pubAt _ (by repeat constructor) ?_
    intro X1 hX1 hB1 _
    refine SL.w (op_callF en41 (vs := [_]) rfl (trim1_spec hl hB1 (by omega))) ?_
    rintro _ _ X2 ⟨rfl, hX2, hS⟩
    obtain ⟨A2, l2, c2, rfl⟩ := hS.form
    refine SL.w (op_store ty65 rfl rfl (by repeat constructor) rfl rfl rfl) ?_
    rintro _ _ _ ⟨rfl, rfl⟩
    refine SL.nil <| T.ret1 rfl (ResIs.cell rfl ty65 (by repeat constructor) rfl) ?_
    exact hS

theorem minus_spec {X : PMap} {v v' : Value} {m m' : Nat} (h : SetR X v m) (h' : SetR X v' m') : Spec Tryz.prog 61 [v, v'] X fun u X' => SetR X' u (m &&& (18446744073709551615 - m')) := by
  have hlt := h.lt
  have hlt' := h'.lt
  have hl : m &&& (18446744073709551615 - m') < 18446744073709551616 := Nat.lt_of_le_of_lt Nat.and_le_left hlt
  obtain ⟨A', l', c', rfl⟩ := h'.form
  rcases h with ⟨rfl, A, c, rfl⟩ | ⟨h0, h1, b, c, rest, rfl, hB⟩
  · simp only [Nat.zero_and]
    refine Spec.enter Tryz.func61 rfl Tryz.ntmps61 rfl ?_
    intro w0 hw0
    refine T.seq <| T.region <| SL.w (op_box rfl) ?_
    rintro _ _ _ ⟨B2, rfl, rfl, rfl⟩
    refine SL.w (op_box rfl) ?_
    rintro _ _ _ ⟨B3, rfl, rfl, rfl⟩
    refine SL.w (op_alloc z65) ?_
    rintro _ _ _ ⟨B4, rfl, rfl, rfl⟩
    refine SL.nil <| T.seq <| T.region <| SL.v (op_fieldAddr fa65_0 rfl) <| SL.v (op_load ty63 rfl (by repeat constructor) rfl) ?_
    refine SL.v (op_lenS Tryz.underlying63 rfl) <| SL.w (op_make Tryz.underlying63 mk63 rfl rfl rfl (Nat.le_refl _) (by omega) (by omega)) ?_
    rintro _ _ _ ⟨B10, rfl, rfl, rfl⟩
    refine SL.as rfl <| SL.nil <| T.seq <| T.seq <| T.region <| SL.mv rfl <| SL.v (op_lenS Tryz.underlying63 rfl) <| SL.v (op_move (v := .int .i64 ((0 : Nat) : Int)) rfl) <| SL.nil <| T.block <| T.unrollStart 1 ?_
    refine T.unroll ?_
    refine T.seq <| T.region <| SL.v (op_lssF rfl rfl (by omega)) ?_
    refine SL.nil <| T.seq <| T.condF rfl ?_
    refine T.exit (T.exitCode (T.exitMore (T.exitBlk ?_)))
    refine T.seq <| T.region <| SL.mv rfl <| SL.w (op_callF en41 (vs := [_]) rfl (trim0_spec _ _)) ?_
    rintro _ _ X1 ⟨rfl, hX1, hS⟩
    obtain ⟨A1, l1, c1, rfl⟩ := hS.form
    refine SL.w (op_store ty65 rfl rfl (by repeat constructor) rfl rfl rfl) ?_
    rintro _ _ _ ⟨rfl, rfl⟩
    refine SL.nil <| T.ret1 rfl (ResIs.cell rfl ty65 (by repeat constructor) rfl) ?_
    exact hS
  · refine Spec.enter Tryz.func61 rfl Tryz.ntmps61 rfl ?_
    intro w0 hw0
    refine T.seq <| T.region <| SL.w (op_box rfl) ?_
    rintro _ _ _ ⟨B2, rfl, rfl, rfl⟩
    refine SL.w (op_box rfl) ?_
    rintro _ _ _ ⟨B3, rfl, rfl, rfl⟩
    refine SL.w (op_alloc z65) ?_
    rintro _ _ _ ⟨B4, rfl, rfl, rfl⟩
    refine SL.nil <| T.seq <| T.region <| SL.v (op_fieldAddr fa65_0 rfl) <| SL.v (op_load ty63 rfl (by repeat constructor) rfl) ?_
    refine SL.v (op_lenS Tryz.underlying63 rfl) <| SL.w (op_make Tryz.underlying63 mk63 rfl rfl rfl (Nat.le_refl _) (by omega) (by omega)) ?_
    rintro _ _ _ ⟨B10, rfl, rfl, rfl⟩
    refine SL.as rfl <| SL.nil <| T.seq <| T.seq <| T.region <| SL.mv rfl <| SL.v (op_lenS Tryz.underlying63 rfl) <| SL.v (op_move (v := .int .i64 ((0 : Nat) : Int)) rfl) <| SL.nil <| T.block <| T.unrollStart 2 ?_
    refine T.unroll ?_
    refine T.seq <| T.region <| SL.v (op_lssT rfl rfl (by omega)) ?_
    refine SL.nil <| T.seq <| T.condT rfl <| T.skip <| T.seq <| T.block <| T.seq <| T.region <| SL.mv rfl <| SL.as rfl <| SL.nil <| T.draw (by kernel_rfl) 12 [.t 0, .t 1, .t 2, .t 3, .t 4, .t 5, .t 6, .t 7, .t 8, .r 9, .t 10, .t 11] (by kernel_rfl) ?_
    refine SD.take rfl panicBody (op_move rfl) rfl rfl ?_
    refine SD.take rfl panicBody (op_move rfl) rfl rfl ?_
    refine SD.take rfl panicBody (op_fieldAddr fa65_0 rfl) rfl rfl ?_
    refine SD.take rfl panicBody (op_load ty63 rfl (by repeat constructor) rfl) rfl rfl ?_
    refine SD.take rfl panicBody (op_move rfl) rfl rfl ?_
    refine SD.take rfl panicBody (op_indexN Tryz.underlying63 ty108 rfl rfl (by omega)) rfl rfl ?_
    refine SD.take rfl panicBody (op_loadX ty108 rfl (by assumption) rfl) rfl rfl ?_
    refine SD.take rfl panicBody (op_load ty65 rfl (by repeat constructor) rfl) rfl rfl ?_
    refine SD.take rfl panicBody (op_move rfl) rfl rfl ?_
    refine SD.run rfl (op_callF en74 (vs := [_, _]) rfl (word_spec (k := 0) h' m' (if_pos rfl))) rfl rfl ?_
    rintro _ _ X1 ⟨rfl, hX1, rfl⟩
    refine SD.take rfl panicBody (op_andNot rfl rfl (by first | omega | assumption | decide | exact Nat.lt_of_le_of_lt (Nat.shiftRight_le ..) (by first | omega | assumption) | exact Nat.lt_of_le_of_lt Nat.and_le_left (by first | omega | assumption) | exact Nat.lt_of_le_of_lt Nat.and_le_right (by first | omega | decide)) (by first | omega | assumption | decide | exact Nat.lt_of_le_of_lt (Nat.shiftRight_le ..) (by first | omega | assumption) | exact Nat.lt_of_le_of_lt Nat.and_le_left (by first | omega | assumption) | exact Nat.lt_of_le_of_lt Nat.and_le_right (by first | omega | decide))) rfl rfl ?_
    refine SD.take rfl panicBody (op_indexN Tryz.underlying63 ty108 rfl rfl (by omega)) rfl rfl ?_
    refine SD.nil ?_
    show SL _ _ _ _ _ _ _ [_] _ _ _
    refine SL.w (op_store ty108 rfl rfl (by repeat constructor) rfl rfl rfl) ?_
    rintro _ _ _ ⟨rfl, rfl⟩
    refine SL.nil <| T.blk <| T.region <| SL.v (op_addN (q := 1) rfl rfl (by omega)) ?_
    refine SL.mv rfl <| SL.nil <| T.unroll ?_
    refine T.seq <| T.region <| SL.v (op_lssF rfl rfl (by omega)) ?_
    refine SL.nil <| T.seq <| T.condF rfl ?_
    refine T.exit (T.exitCode (T.exitMore (T.exitBlk ?_)))
    refine T.seq <| T.region <| SL.mv rfl <| T.pubAt _ (by repeat constructor) ?_
    intro X2 hX2 hB2 _
    refine SL.w (op_callF en41 (vs := [_]) rfl (trim1_spec hl hB2 (by omega))) ?_
    rintro _ _ X3 ⟨rfl, hX3, hS⟩
    obtain ⟨A2, l2, c2, rfl⟩ := hS.form
    refine SL.w (op_store ty65 rfl rfl (by repeat constructor) rfl rfl rfl) ?_
    rintro _ _ _ ⟨rfl, rfl⟩
    refine SL.nil <| T.ret1 rfl (ResIs.cell rfl ty65 (by repeat constructor) rfl) ?_
    exact hS
end Go.Proofs.YtmfiencoefbjfaaGreatDoor
