/- Books: days, users and sets, no program in sight. -/
import Derived.Test.YtkmnlogacfkjmaaDoorMk
namespace Go.Proofs.YtkmnlogacfkjmaaDoor
open Go.RowKit
theorem onM_fold {u d : Int} {i : Nat} : ∀ (l : List En) (m : Nat), (l.foldl (fun m e => if e.1 = u ∧ actB d e = true then m ||| 2 ^ e.2.1.toNat else m) m).testBit i = (m.testBit i || l.any fun e => decide (e.1 = u ∧ actB d e = true ∧ e.2.1.toNat = i))
  | [], m => by simp
  | e :: l, m => by
    rw [List.foldl_cons, onM_fold l, List.any_cons]
    by_cases hc : e.1 = u ∧ actB d e = true
    · rw [if_pos hc, Nat.testBit_or, Nat.testBit_two_pow]
      simp only [hc.1, hc.2, true_and, Bool.or_assoc]
    · rw [if_neg hc]
      have : decide (e.1 = u ∧ actB d e = true ∧ e.2.1.toNat = i) = false := decide_eq_false fun h => hc ⟨h.1, h.2.1⟩
      rw [this, Bool.false_or]
theorem onM_bit {l : List En} {u d : Int} {i : Nat} : (onM l u d).testBit i = true ↔ ∃ e ∈ l, e.1 = u ∧ actB d e = true ∧ e.2.1.toNat = i := by
  rw [onM, onM_fold]
  simp [List.any_eq_true]
theorem mem64_asc (m : Nat) : (mem64 m).Pairwise (· < ·) := List.Pairwise.filter _ List.pairwise_lt_range
theorem asc_ext : ∀ {a b : List Nat}, a.Pairwise (· < ·) → b.Pairwise (· < ·) → (∀ x, x ∈ a ↔ x ∈ b) → a = b
  | [], [], _, _, _ => rfl
  | [], y :: b, _, _, h => by have := (h y).2 (by simp); cases this
  | x :: a, [], _, _, h => by have := (h x).1 (by simp); cases this
  | x :: a, y :: b, h1, h2, h => by
    rw [List.pairwise_cons] at h1 h2
    have e : x = y := by
      have hx := (h x).1 (by simp)
      have hy := (h y).2 (by simp)
      rcases List.mem_cons.1 hx with rfl | hx
      · rfl
      · rcases List.mem_cons.1 hy with rfl | hy
        · rfl
        · have := h1.1 y hy; have := h2.1 x hx; omega
    subst e
    rw [asc_ext h1.2 h2.2 fun z => ?_]
    constructor
    · intro hz
      have := (h z).1 (by simp [hz])
      rcases List.mem_cons.1 this with rfl | h3
      · have := h1.1 z hz; omega
      · exact h3
    · intro hz
      have := (h z).2 (by simp [hz])
      rcases List.mem_cons.1 this with rfl | h3
      · have := h2.1 z hz; omega
      · exact h3
theorem onE_mem {l : List En} {u d : Int} {i : Nat} : i ∈ onE l u d ↔ ∃ e ∈ l, e.1 = u ∧ actB d e = true ∧ e.2.1.toNat = i := by
  rw [onE, List.mem_map]
  constructor
  · rintro ⟨e, he, rfl⟩
    obtain ⟨h1, h2⟩ := List.mem_filter.1 he
    simp only [Bool.and_eq_true, decide_eq_true_eq] at h2
    exact ⟨e, h1, h2.1, h2.2, rfl⟩
  · rintro ⟨e, he, h1, h2, rfl⟩
    exact ⟨e, List.mem_filter.2 ⟨he, by simp [h1, h2]⟩, rfl⟩
theorem onE_asc {l : List En} (hw : WfL l) (u d : Int) : (onE l u d).Pairwise (· < ·) := by
  rw [onE, List.pairwise_map]
  refine (hw.1.sublist (List.filter_sublist (p := fun e : En => decide (e.1 = u) && actB d e))).imp_of_mem fun {a b} ha hb hab => ?_
  obtain ⟨h1, h2⟩ := List.mem_filter.1 ha
  obtain ⟨h3, h4⟩ := List.mem_filter.1 hb
  simp only [Bool.and_eq_true, decide_eq_true_eq] at h2 h4
  have o1 := hw.2 a h1
  have o2 := hw.2 b h3
  simp only [okE] at o1 o2
  simp only [befE] at hab
  omega
theorem on_list {l : List En} (hw : WfL l) (u d : Int) : mem64 (onM l u d) = onE l u d := by
  refine asc_ext (mem64_asc _) (onE_asc hw u d) fun i => ?_
  rw [mem_mem64, onM_bit, onE_mem]
  constructor
  · exact fun h => h.2
  · rintro ⟨e, he, h1, h2, h3⟩
    have := hw.2 e he
    simp only [okE] at this
    exact ⟨by omega, e, he, h1, h2, h3⟩
theorem until_mem {l : List En} (hw : WfL l) {u r t : Int} : untilE l u r = some t ↔ (u, r, t) ∈ l := by
  constructor
  · intro h
    rw [untilE, Option.map_eq_some_iff] at h
    obtain ⟨e, he, rfl⟩ := h
    have h1 := List.find?_some he
    have h2 := List.mem_of_find?_eq_some he
    simp only [keyB, decide_eq_true_eq] at h1
    obtain ⟨rfl, rfl⟩ := h1
    exact h2
  · intro h
    obtain ⟨q, hq⟩ := List.mem_iff_getElem?.1 h
    have hk : keyB u r (u, r, t) = true := by simp [keyB]
    have e1 := key_uniq hw hq hk
    subst e1
    rw [untilE, find_pos hw hq hk]; rfl
theorem act_days {d : Int} {e : En} : actB d e = true ↔ 0 ≤ d ∧ d ≤ 30000 ∧ d ≤ e.2.2 := by rw [actB, decide_eq_true_eq]
/-- The user has the role on the day. -/
def hasD (l : List En) (u r d : Int) : Bool := match untilE l u r with | some t => decide (0 ≤ d ∧ d ≤ 30000 ∧ d ≤ t) | none => false
theorem hasD_iff {l : List En} (hw : WfL l) {u r d : Int} : hasD l u r d = true ↔ ∃ t, (u, r, t) ∈ l ∧ 0 ≤ d ∧ d ≤ 30000 ∧ d ≤ t := by
  constructor
  · intro h
    unfold hasD at h
    split at h
    · rename_i t ht
      rw [decide_eq_true_eq] at h
      exact ⟨t, (until_mem hw).1 ht, h⟩
    · cases h
  · rintro ⟨t, ht, h⟩
    rw [hasD, (until_mem hw).2 ht]
    simpa using h
theorem has_on {l : List En} (hw : WfL l) {u r d : Int} (hr : 0 ≤ r) : hasB (onM l u d) r = hasD l u r d := by
  rw [Bool.eq_iff_iff, hasD_iff hw, hasB, Bool.and_eq_true, decide_eq_true_eq, onM_bit]
  constructor
  · rintro ⟨_, ⟨a, b, c⟩, he, rfl, h2, h3⟩
    have o := hw.2 _ he
    simp only [okE] at o
    simp only at h3
    obtain rfl : b = r := by omega
    exact ⟨c, he, act_days.1 h2⟩
  · rintro ⟨t, ht, h⟩
    exact ⟨hr, _, ht, rfl, act_days.2 h, rfl⟩
theorem user_on {l : List En} (hw : WfL l) {u r d : Int} : hasD l u r d = true ↔ ∃ a ∈ usersE l r d, (a : Int) = u := by
  rw [hasD_iff hw]
  constructor
  · rintro ⟨t, ht, h⟩
    have o := hw.2 _ ht
    simp only [okE] at o
    refine ⟨u.toNat, List.mem_map.2 ⟨_, List.mem_filter.2 ⟨ht, ?_⟩, rfl⟩, by omega⟩
    simp only [Bool.and_eq_true, decide_eq_true_eq, true_and]
    exact act_days.2 h
  · rintro ⟨a, ha, rfl⟩
    obtain ⟨⟨x, y, z⟩, he, rfl⟩ := List.mem_map.1 ha
    obtain ⟨h1, h2⟩ := List.mem_filter.1 he
    simp only [Bool.and_eq_true, decide_eq_true_eq] at h2
    have o := hw.2 _ h1
    simp only [okE] at o
    refine ⟨z, ?_, act_days.1 h2.2⟩
    obtain rfl : y = r := h2.1
    rwa [show ((x.toNat : Nat) : Int) = x by omega]
theorem not64 {m i : Nat} (hm : m < 18446744073709551616) (hi : i < 64) : (18446744073709551615 - m).testBit i = !m.testBit i := by
  have := Nat.testBit_two_pow_sub_succ (x := m) (n := 64) (by omega) i
  rw [show 2 ^ 64 - (m + 1) = 18446744073709551615 - m by omega] at this
  simpa [hi] using this
theorem onM_lt {l : List En} (hw : WfL l) (u d : Int) : onM l u d < 18446744073709551616 := by
  have : onM l u d < 2 ^ 64 := Nat.lt_pow_two_of_testBit _ fun i hi => by
    cases hb : (onM l u d).testBit i with
    | false => rfl
    | true =>
      obtain ⟨e, he, _, _, h3⟩ := onM_bit.1 hb
      have o := hw.2 _ he
      simp only [okE] at o
      omega
  exact this
/-- With the days assignments only end. -/
theorem on_later {l : List En} (hw : WfL l) {u d d' : Int} (h0 : 0 ≤ d) (h : d ≤ d') : onM l u d' &&& (18446744073709551615 - onM l u d) = 0 := by
  apply Nat.eq_of_testBit_eq
  intro i
  rw [Nat.testBit_and, Nat.zero_testBit]
  cases hb : (onM l u d').testBit i with
  | false => rfl
  | true =>
    have hl : i < 64 := by
      rcases Nat.lt_or_ge i 64 with h1 | h1
      · exact h1
      · rw [Nat.testBit_lt_two_pow (Nat.lt_of_lt_of_le (onM_lt hw u d') (by rw [show (18446744073709551616 : Nat) = 2 ^ 64 from rfl]; exact Nat.pow_le_pow_right (by omega) h1))] at hb; cases hb
    rw [not64 (onM_lt hw u d) hl]
    obtain ⟨e, he, h1, h2, h3⟩ := onM_bit.1 hb
    have := act_days.1 h2
    have : (onM l u d).testBit i = true := onM_bit.2 ⟨e, he, h1, act_days.2 (by omega), h3⟩
    rw [this]; rfl
theorem onM_ext {l m : List En} {u d d' : Int} (h : ∀ e, e.1 = u → ((e ∈ l ∧ actB d e = true) ↔ (e ∈ m ∧ actB d' e = true))) : onM l u d = onM m u d' := by
  apply Nat.eq_of_testBit_eq
  intro i
  rw [Bool.eq_iff_iff, onM_bit, onM_bit]
  constructor
  · rintro ⟨e, h1, h2, h3, h4⟩
    obtain ⟨h5, h6⟩ := (h e h2).1 ⟨h1, h3⟩
    exact ⟨e, h5, h2, h6, h4⟩
  · rintro ⟨e, h1, h2, h3, h4⟩
    obtain ⟨h5, h6⟩ := (h e h2).2 ⟨h1, h3⟩
    exact ⟨e, h5, h2, h6, h4⟩
theorem exp_mem {l : List En} {d : Int} {e : En} : e ∈ expE l d ↔ e ∈ l ∧ d ≤ e.2.2 := by rw [expE, List.mem_filter, decide_eq_true_eq]
theorem on_exp {l : List En} {u d x : Int} (h : d ≤ x) : onM (expE l d) u x = onM l u x := onM_ext fun e _ => by
  rw [exp_mem]
  constructor
  · exact fun h => ⟨h.1.1, h.2⟩
  · exact fun h3 => ⟨⟨h3.1, by have := act_days.1 h3.2; omega⟩, h3.2⟩
theorem on_exp_before {l : List En} {u d : Int} (h0 : 0 < d) (h1 : d ≤ 30000) : onM (expE l d) u (d - 1) = onM (expE l d) u d := onM_ext fun e _ => by
  rw [exp_mem]
  constructor
  · exact fun h => ⟨h.1, act_days.2 (by omega)⟩
  · exact fun h => ⟨h.1, act_days.2 (by omega)⟩
theorem exp_exp (l : List En) (d : Int) : expE (expE l d) d = expE l d := by rw [expE, List.filter_eq_self]; exact fun e he => by simpa using (exp_mem.1 he).2
theorem exp_le (l : List En) (d : Int) : (expE l d).length ≤ l.length := List.length_filter_le _ _
theorem has_until {l : List En} (hw : WfL l) {e : En} (he : e ∈ l) : untilE l e.1 e.2.1 = some e.2.2 := (until_mem hw).2 he
theorem rev_len_eq {l : List En} (hw : WfL l) {u r : Int} : (revE l u r).length = l.length ↔ hasE l u r = false := by
  constructor
  · intro h
    cases hh : hasE l u r with
    | false => rfl
    | true => have := rev_len hw hh; omega
  · intro h; rw [rev_no h]
end Go.Proofs.YtkmnlogacfkjmaaDoor
