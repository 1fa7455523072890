/- Books: plain laws, no program in sight. -/
import Derived.Test.YtkmnlogacfkjmaaDoorBytes
namespace Go.Proofs.YtkmnlogacfkjmaaDoor
open Go.RowKit
theorem mem_take_get {α : Type} {l : List α} {k : Nat} {y : α} (h : y ∈ l.take k) : ∃ q, q < k ∧ l[q]? = some y := by
  obtain ⟨q, hq, hy⟩ := List.getElem_of_mem h
  have hq2 : q < k := by rw [List.length_take] at hq; omega
  refine ⟨q, hq2, ?_⟩
  have : (l.take k)[q]? = some y := by rw [List.getElem?_eq_getElem hq, hy]
  rwa [List.getElem?_take, if_pos hq2] at this
theorem mem_drop_get {α : Type} {l : List α} {k : Nat} {y : α} (h : y ∈ l.drop k) : ∃ q, k ≤ q ∧ l[q]? = some y := by
  obtain ⟨q, hq, hy⟩ := List.getElem_of_mem h
  refine ⟨k + q, by omega, ?_⟩
  have : (l.drop k)[q]? = some y := by rw [List.getElem?_eq_getElem hq, hy]
  rwa [List.getElem?_drop] at this
theorem insE_split {x : En} : ∀ {a b : List En}, (∀ y ∈ a, ltB y.1 y.2.1 x = false) → (∀ y ∈ b, ltB y.1 y.2.1 x = true) → insE x (a ++ b) = a ++ x :: b
  | [], [], _, _ => rfl
  | [], y :: b, _, h => by rw [List.nil_append, insE, if_pos (h y (by simp))]; rfl
  | y :: a, b, h1, h2 => by
    rw [List.cons_append, insE, if_neg (by rw [h1 y (by simp)]; simp), insE_split (fun z hz => h1 z (by simp [hz])) h2]; rfl
theorem ltB_flip {x y : En} (h : ltB x.1 x.2.1 y = true) : ltB y.1 y.2.1 x = false := by
  simp only [ltB, decide_eq_true_eq, decide_eq_false_iff_not] at h ⊢; omega
theorem ltB_other {x y : En} (h : ltB x.1 x.2.1 y = false) (hk : keyB x.1 x.2.1 y = false) : ltB y.1 y.2.1 x = true := by
  simp only [ltB, keyB, decide_eq_true_eq, decide_eq_false_iff_not] at h hk ⊢; omega
theorem key_uniq {l : List En} (hw : WfL l) {u r : Int} {q : Nat} {y : En} (hy : l[q]? = some y) (hk : keyB u r y = true) : q = posE l u r := by
  simp only [keyB, decide_eq_true_eq] at hk
  rcases Nat.lt_trichotomy q (posE l u r) with h | h | h
  · have := pos_lt h hy
    simp only [ltB, decide_eq_true_eq] at this; omega
  · exact h
  · have hl := (List.getElem?_eq_some_iff.1 hy)
    obtain ⟨h1, h2⟩ := hl
    have hp : posE l u r < l.length := by omega
    have hb := List.pairwise_iff_getElem.1 hw.1 _ q hp h1 h
    rw [h2] at hb
    have := pos_ge hw (u := u) (r := r) (Nat.le_refl _) (List.getElem?_eq_getElem hp)
    simp only [ltB, decide_eq_false_iff_not, befE] at this hb
    omega
theorem rev_no {l : List En} {u r : Int} (h : hasE l u r = false) : revE l u r = l := by
  rw [revE, List.filter_eq_self]
  intro x hx
  have := List.any_eq_false.1 h x hx
  simpa using this
theorem rev_split {l : List En} (hw : WfL l) {u r : Int} (h : hasE l u r = true) : revE l u r = l.take (posE l u r) ++ l.drop (posE l u r + 1) := by
  obtain ⟨e, he, hk⟩ := has_pos hw h
  obtain ⟨h1, h2⟩ := List.getElem?_eq_some_iff.1 he
  have hl : l = l.take (posE l u r) ++ e :: l.drop (posE l u r + 1) := by rw [← h2, ← List.drop_eq_getElem_cons h1, List.take_append_drop]
  have ha : (l.take (posE l u r)).filter (fun e => !keyB u r e) = l.take (posE l u r) := by
    rw [List.filter_eq_self]
    intro y hy
    obtain ⟨q, hq, hyq⟩ := mem_take_get hy
    cases hky : keyB u r y with
    | false => rfl
    | true => have := key_uniq hw hyq hky; omega
  have hb : (l.drop (posE l u r + 1)).filter (fun e => !keyB u r e) = l.drop (posE l u r + 1) := by
    rw [List.filter_eq_self]
    intro y hy
    obtain ⟨q, hq, hyq⟩ := mem_drop_get hy
    cases hky : keyB u r y with
    | false => rfl
    | true => have := key_uniq hw hyq hky; omega
  conv => lhs; rw [revE, hl, List.filter_append, List.filter_cons]
  rw [ha, hb, hk]; simp
theorem del_eq {l : List En} (hw : WfL l) {u r : Int} (h : hasE l u r = true) : delP l u r = revE l u r := by rw [rev_split hw h]; rfl
theorem asg_eq {l : List En} (hw : WfL l) {u r t : Int} : asgP l u r t = insE (u, r, t) (revE l u r) := by
  cases h : hasE l u r with
  | true =>
    obtain ⟨e, he, hk⟩ := has_pos hw h
    obtain ⟨h1, h2⟩ := List.getElem?_eq_some_iff.1 he
    rw [asgP, if_pos h, rev_split hw h, insE_split (x := (u, r, t)), List.set_eq_take_append_cons_drop, if_pos h1]
    · intro y hy
      obtain ⟨q, hq, hyq⟩ := mem_take_get hy
      exact ltB_flip (x := (u, r, t)) (pos_lt hq hyq)
    · intro y hy
      obtain ⟨q, hq, hyq⟩ := mem_drop_get hy
      refine ltB_other (x := (u, r, t)) (pos_ge (u := u) (r := r) hw (by omega) hyq) ?_
      cases hky : keyB u r y with
      | false => rfl
      | true => have : q = posE l u r := key_uniq hw hyq hky; omega
  | false =>
    rw [asgP, if_neg (by rw [h]; simp), rev_no h]
    conv => rhs; rw [← List.take_append_drop (posE l u r) l]
    rw [insE_split (x := (u, r, t))]
    · intro y hy
      obtain ⟨q, hq, hyq⟩ := mem_take_get hy
      exact ltB_flip (x := (u, r, t)) (pos_lt hq hyq)
    · intro y hy
      obtain ⟨q, hq, hyq⟩ := mem_drop_get hy
      refine ltB_other (x := (u, r, t)) (pos_ge (u := u) (r := r) hw (by omega) hyq) ?_
      have := List.any_eq_false.1 h y (List.mem_of_getElem? hyq)
      simpa using this
theorem wf_filter {l : List En} (hw : WfL l) (p : En → Bool) : WfL (l.filter p) := ⟨hw.1.sublist List.filter_sublist, fun e he => hw.2 e (List.mem_filter.1 he).1⟩
theorem wf_nil : WfL [] := ⟨List.Pairwise.nil, fun _ h => by cases h⟩
theorem rev_wf {l : List En} (hw : WfL l) (u r : Int) : WfL (revE l u r) := wf_filter hw _
theorem exp_wf {l : List En} (hw : WfL l) (d : Int) : WfL (expE l d) := wf_filter hw _
theorem insE_mem {x y : En} : ∀ {l : List En}, y ∈ insE x l ↔ y = x ∨ y ∈ l
  | [] => by simp [insE]
  | z :: l => by
    rw [insE]
    split
    · simp
    · rw [List.mem_cons, insE_mem, List.mem_cons]
      constructor
      · rintro (h | h | h)
        · exact .inr (.inl h)
        · exact .inl h
        · exact .inr (.inr h)
      · rintro (h | h | h)
        · exact .inr (.inl h)
        · exact .inl h
        · exact .inr (.inr h)
theorem befE_trans {a b c : En} (h1 : befE a b) (h2 : befE b c) : befE a c := by
  simp only [befE] at *; omega
theorem insE_sorted {x : En} : ∀ {l : List En}, l.Pairwise befE → (∀ y ∈ l, keyB x.1 x.2.1 y = false) → (insE x l).Pairwise befE
  | [], _, _ => by simp [insE]
  | y :: l, h, hk => by
    rw [List.pairwise_cons] at h
    rw [insE]
    have hky := hk y (by simp)
    split
    · rename_i hlt
      have hxy : befE x y := by simpa only [ltB, decide_eq_true_eq, befE] using hlt
      rw [List.pairwise_cons]
      refine ⟨fun z hz => ?_, List.pairwise_cons.2 h⟩
      rcases List.mem_cons.1 hz with rfl | hz
      · exact hxy
      · exact befE_trans hxy (h.1 z hz)
    · rename_i hlt
      have hyx : befE y x := by
        simp only [ltB, keyB, decide_eq_true_eq, decide_eq_false_iff_not, befE] at hlt hky ⊢; omega
      rw [List.pairwise_cons]
      refine ⟨fun z hz => ?_, insE_sorted h.2 fun z hz => hk z (by simp [hz])⟩
      rcases insE_mem.1 hz with rfl | hz
      · exact hyx
      · exact h.1 z hz
theorem asgErr_ok {u r t : Int} (h : asgErr u r t = 0) : okE (u, r, t) := by
  unfold asgErr at h
  cases hk : keyOk u r with
  | false => rw [hk, if_pos rfl] at h; cases h
  | true =>
    rw [hk, if_neg (by simp)] at h
    simp only [keyOk, decide_eq_true_eq] at hk
    split at h
    · cases h
    · rename_i hc
      exact ⟨hk.1, hk.2.1, hk.2.2.1, hk.2.2.2, by simp only; omega, by simp only; omega⟩
theorem insE_wf {l : List En} (hw : WfL l) {x : En} (hx : okE x) : WfL (insE x (revE l x.1 x.2.1)) :=
  ⟨insE_sorted (rev_wf hw _ _).1 (fun y hy => by simpa [revE] using (List.mem_filter.1 hy).2), fun e he => by
    rcases insE_mem.1 he with rfl | he
    · exact hx
    · exact (rev_wf hw _ _).2 e he⟩
theorem asg_wf {l : List En} (hw : WfL l) {u r t : Int} (h : asgErr u r t = 0) : WfL (asgP l u r t) := by
  rw [asg_eq hw]; exact insE_wf hw (x := (u, r, t)) (asgErr_ok h)
theorem rev_len {l : List En} (hw : WfL l) {u r : Int} (h : hasE l u r = true) : (revE l u r).length + 1 = l.length := by
  obtain ⟨e, he, hk⟩ := has_pos hw h
  have h1 := (List.getElem?_eq_some_iff.1 he).1
  rw [rev_split hw h, List.length_append, List.length_take, List.length_drop]; omega
theorem asg_len {l : List En} (hw : WfL l) {u r t : Int} : (asgP l u r t).length = if hasE l u r = true then l.length else l.length + 1 := by
  rw [asg_eq hw, insE_len]
  split
  · rename_i h; exact rev_len hw h
  · rename_i h; rw [rev_no (by simpa using h)]
theorem has_find {l : List En} {u r : Int} : hasE l u r = (untilE l u r).isSome := by
  rw [untilE, Option.isSome_map, hasE, List.isSome_find?]
theorem find_filter_other {l : List En} {u r : Int} {p : En → Bool} (h : ∀ e ∈ l, keyB u r e = true → p e = true) : (l.filter p).find? (keyB u r) = l.find? (keyB u r) := by
  induction l with
  | nil => rfl
  | cons y l ih =>
    have ih2 := ih (fun e he => h e (by simp [he]))
    cases hk : keyB u r y with
    | true => rw [List.filter_cons, if_pos (h y (by simp) hk), List.find?_cons, List.find?_cons, hk]
    | false =>
      rw [List.find?_cons, hk, List.filter_cons]
      split
      · rw [List.find?_cons, hk]; exact ih2
      · exact ih2
theorem find_insE {x : En} {u r : Int} : ∀ {l : List En}, (keyB u r x = true → l.find? (keyB u r) = none) → (insE x l).find? (keyB u r) = if keyB u r x = true then some x else l.find? (keyB u r)
  | [], _ => by
    cases hk : keyB u r x <;> simp [insE, hk]
  | y :: l, h => by
    rw [insE]
    cases hk : keyB u r x with
    | true =>
      have h1 := h hk
      rw [List.find?_cons] at h1
      cases hy : keyB u r y with
      | true => rw [hy] at h1; cases h1
      | false =>
        rw [hy] at h1
        split
        · rw [List.find?_cons, hk]; rfl
        · simp [hy, find_insE (fun _ => h1), hk]
    | false =>
      split
      · rw [List.find?_cons, hk]; rfl
      · rw [List.find?_cons, find_insE (fun e => by rw [hk] at e; cases e), hk]
        cases hy : keyB u r y <;> simp [hy]
/-- What an assignment does to the days. -/
theorem until_asg {l : List En} (hw : WfL l) {u r t u' r' : Int} : untilE (asgP l u r t) u' r' = if u' = u ∧ r' = r then some t else untilE l u' r' := by
  rw [asg_eq hw, untilE]
  have hn : keyB u' r' (u, r, t) = true → (revE l u r).find? (keyB u' r') = none := fun h => by
    simp only [keyB, decide_eq_true_eq] at h
    obtain ⟨rfl, rfl⟩ := h
    rw [List.find?_eq_none]
    intro y hy hk
    have := (List.mem_filter.1 hy).2
    rw [hk] at this; cases this
  rw [find_insE hn]
  by_cases hc : u' = u ∧ r' = r
  · obtain ⟨rfl, rfl⟩ := hc
    rw [if_pos (by simp [keyB]), if_pos ⟨rfl, rfl⟩]; rfl
  · rw [if_neg (by simp only [keyB, decide_eq_true_eq]; intro h; exact hc ⟨h.1.symm, h.2.symm⟩), if_neg hc, untilE, revE, find_filter_other]
    intro e _ hk
    simp only [keyB, decide_eq_true_eq] at hk
    simp only [keyB, Bool.not_eq_true', decide_eq_false_iff_not]
    intro h; exact hc ⟨by omega, by omega⟩
theorem until_rev {l : List En} {u r : Int} : untilE (revE l u r) u r = none := by
  rw [untilE, Option.map_eq_none_iff, List.find?_eq_none]
  intro y hy hk
  have := (List.mem_filter.1 hy).2
  rw [hk] at this; cases this
end Go.Proofs.YtkmnlogacfkjmaaDoor
