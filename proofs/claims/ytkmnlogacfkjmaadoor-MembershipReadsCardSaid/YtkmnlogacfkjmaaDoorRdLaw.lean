/- Books: what is read is what was written, and nothing else is read; no program in sight. -/
import Derived.Test.YtkmnlogacfkjmaaDoorBookR
namespace Go.Proofs.YtkmnlogacfkjmaaDoor
open Go.RowKit
theorem endE_ok {e : Int} {bs : List Nat} (h : endE e bs = 0) : e = 0 ∧ bs = [] := by
  unfold endE at h
  split at h
  · cases h
  · rename_i hn
    exact ⟨h, Decidable.not_not.1 fun hb => hn ⟨h, hb⟩⟩
theorem rdEs_err {m : Nat} {l : List En} {e : Int} {ds : List Nat} (h : e ≠ 0) : rdEs m l e ds = (l, e, ds) := by
  cases m with
  | zero => rfl
  | succ k => rw [rdEs, if_neg h]
theorem wf_snoc {l : List En} {x : En} (hw : WfL l) (ho : okE x) (hb : ∀ a ∈ l, befE a x) : WfL (l ++ [x]) := by
  refine ⟨List.pairwise_append.2 ⟨hw.1, List.pairwise_singleton .., fun a ha b hb' => ?_⟩, fun e he => ?_⟩
  · obtain rfl := List.mem_singleton.1 hb'
    exact hb a ha
  · rcases List.mem_append.1 he with he | he
    · exact hw.2 e he
    · obtain rfl := List.mem_singleton.1 he
      exact ho
theorem last_bef {l : List En} (hw : WfL l) {a : En} (ha : a ∈ l) : a = l.getLastD (0, 0, 0) ∨ befE a (l.getLastD (0, 0, 0)) := by
  obtain ⟨i, hi, rfl⟩ := List.getElem_of_mem ha
  have hl := last_at (l := l) (by omega)
  obtain ⟨h1, h2⟩ := List.getElem?_eq_some_iff.1 hl
  rw [← h2]
  rcases Nat.lt_or_ge i (l.length - 1) with hq | hq
  · exact .inr (List.pairwise_iff_getElem.1 hw.1 _ _ _ _ hq)
  · exact .inl (by congr 1; omega)
theorem bad_not {l : List En} (hw : WfL l) {x : En} (h : ¬badE l x) : ∀ a ∈ l, befE a x := by
  intro a ha
  simp only [badE] at h
  have := last_bef hw ha
  simp only [befE] at this ⊢
  rcases this with rfl | h2
  · omega
  · omega
theorem rdX_ok {l : List En} {ds : List Nat} (hd : ∀ b ∈ ds, b < 256) (h : rdE l 0 ds = 0) : ¬badE l (rdX 0 ds) ∧ ds = encE (rdX 0 ds) ++ (rd3 0 ds).2.2 := by
  unfold rdE at h
  by_cases hb : badE l (rdX 0 ds)
  · rw [if_pos hb] at h
    split at h
    · cases h
    · rename_i h3; exact absurd h h3
  · rw [if_neg hb] at h
    refine ⟨hb, ?_⟩
    have hsub : ∀ {a b : List Nat}, ds = a ++ b → ∀ x ∈ b, x < 256 := fun e x hx => hd x (by rw [e]; exact List.mem_append_right _ hx)
    have g3 := fun hh => rdU_ok (c := 2) (e := (rd2 0 ds).2.1) (most := 30000) (bs := (rd2 0 ds).2.2) hh (by omega) h
    have k1 : ∃ k, (rd1 0 ds).2.2 = ds.drop k := rdU_sub
    obtain ⟨k1, e1⟩ := k1
    have k2 : ∃ k, (rd2 0 ds).2.2 = (rd1 0 ds).2.2.drop k := rdU_sub
    obtain ⟨k2, e2⟩ := k2
    have d1 : ∀ b ∈ (rd1 0 ds).2.2, b < 256 := fun b hb => hd b (by rw [e1] at hb; exact List.mem_of_mem_drop hb)
    have d2 : ∀ b ∈ (rd2 0 ds).2.2, b < 256 := fun b hb => d1 b (by rw [e2] at hb; exact List.mem_of_mem_drop hb)
    obtain ⟨h2, a3, _⟩ := g3 d2
    obtain ⟨h1, a2, _⟩ := rdU_ok (c := 2) (e := (rd1 0 ds).2.1) (most := 63) (bs := (rd1 0 ds).2.2) d1 (by omega) h2
    obtain ⟨_, a1, _⟩ := rdU_ok (c := 2) (e := 0) (most := 256) (bs := ds) hd (by omega) h1
    change ds = numB (rd1 0 ds).1 ++ (rd1 0 ds).2.2 at a1
    change (rd1 0 ds).2.2 = numB (rd2 0 ds).1 ++ (rd2 0 ds).2.2 at a2
    change (rd2 0 ds).2.2 = numB (rd3 0 ds).1 ++ (rd3 0 ds).2.2 at a3
    have : encE (rdX 0 ds) = numB (rd1 0 ds).1 ++ numB (rd2 0 ds).1 ++ numB (rd3 0 ds).1 := by
      simp [encE, rdX]
    rw [this, List.append_assoc, List.append_assoc, ← a3, ← a2, ← a1]
theorem rdX_wf {l : List En} {ds : List Nat} (h : ¬badE l (rdX 0 ds)) : okE (rdX 0 ds) := by
  have m1 := rdU_le (c := 2) (e := 0) (most := 256) (bs := ds)
  have m2 := rdU_le (c := 2) (e := (rd1 0 ds).2.1) (most := 63) (bs := (rd1 0 ds).2.2)
  have m3 := rdU_le (c := 2) (e := (rd2 0 ds).2.1) (most := 30000) (bs := (rd2 0 ds).2.2)
  change (rd1 0 ds).1 ≤ 256 at m1
  change (rd2 0 ds).1 ≤ 63 at m2
  change (rd3 0 ds).1 ≤ 30000 at m3
  simp only [badE, rdX] at h
  simp only [okE, rdX]
  omega
theorem rdEs_ok : ∀ (m : Nat) (l : List En) (e : Int) (ds : List Nat), (∀ b ∈ ds, b < 256) → WfL l → (rdEs m l e ds).2.1 = 0 → (rdEs m l e ds).1.length = l.length + m ∧ WfL (rdEs m l e ds).1 ∧ ∃ l', (rdEs m l e ds).1 = l ++ l' ∧ ds = (l'.map encE).flatten ++ (rdEs m l e ds).2.2
  | 0, l, e, ds, _, hw, _ => ⟨rfl, hw, [], by simp [rdEs], by simp [rdEs]⟩
  | m + 1, l, e, ds, hd, hw, h => by
    have he : e = 0 := Decidable.not_not.1 fun he => by
      rw [rdEs_err he] at h; exact he h
    subst he
    rw [rdEs, if_pos rfl] at h ⊢
    have h0 : rdE l 0 ds = 0 := Decidable.not_not.1 fun he => by
      rw [rdEs_err he] at h; exact he h
    obtain ⟨hb, e1⟩ := rdX_ok hd h0
    have hw1 := wf_snoc hw (rdX_wf hb) (bad_not hw hb)
    have hd1 : ∀ b ∈ (rd3 0 ds).2.2, b < 256 := fun b hb' => hd b (by rw [e1]; exact List.mem_append_right _ hb')
    obtain ⟨g1, g2, l', g3, g4⟩ := rdEs_ok m (l ++ [rdX 0 ds]) (rdE l 0 ds) (rd3 0 ds).2.2 hd1 hw1 h
    refine ⟨by rw [g1, List.length_append]; simp only [List.length_cons, List.length_nil]; omega, g2, rdX 0 ds :: l', by rw [g3]; simp, ?_⟩
    rw [List.map_cons, List.flatten_cons, List.append_assoc, ← g4]
    exact e1
/-- What is read without an error: a book, and its bytes are these. -/
theorem rdBook_ok {bs : List Nat} (hb : ∀ b ∈ bs, b < 256) (h : endE (rdBook bs).2.1 (rdBook bs).2.2 = 0) : WfL (rdBook bs).1 ∧ (rdBook bs).1.length ≤ 16128 ∧ encL (rdBook bs).1 = bs := by
  obtain ⟨h1, h2⟩ := endE_ok h
  rw [rdBook] at h1 h2 ⊢
  have he : (rdU 3 16128 0 bs).2.1 = 0 := Decidable.not_not.1 fun he => by
    rw [rdEs_err he] at h1; exact he h1
  obtain ⟨_, e1, _⟩ := rdU_ok hb (by omega) he
  have hd : ∀ b ∈ (rdU 3 16128 0 bs).2.2, b < 256 := fun b hb' => hb b (by rw [e1]; exact List.mem_append_right _ hb')
  obtain ⟨g1, g2, l', g3, g4⟩ := rdEs_ok _ [] _ _ hd ⟨List.Pairwise.nil, fun _ h => by cases h⟩ h1
  rw [h2, List.append_nil] at g4
  rw [List.nil_append] at g3
  have hm := rdU_le (c := 3) (e := 0) (most := 16128) (bs := bs)
  rw [List.length_nil, Nat.zero_add] at g1
  refine ⟨g2, by rw [g1]; exact hm, ?_⟩
  rw [encL, g1, g3, ← g4, ← e1]
theorem rdX_enc {x : En} (ho : okE x) (t : List Nat) : rdX 0 (encE x ++ t) = x ∧ (rd3 0 (encE x ++ t)).2.1 = 0 ∧ (rd3 0 (encE x ++ t)).2.2 = t := by
  obtain ⟨a, b, c⟩ := x
  simp only [okE] at ho
  have e0 : encE (a, b, c) ++ t = numB a.toNat ++ (numB b.toNat ++ (numB c.toNat ++ t)) := by simp [encE]
  have e1 : rd1 0 (encE (a, b, c) ++ t) = (a.toNat, 0, numB b.toNat ++ (numB c.toNat ++ t)) := by
    rw [rd1, e0, rdU_numB (by omega) (by omega)]
  have e2 : rd2 0 (encE (a, b, c) ++ t) = (b.toNat, 0, numB c.toNat ++ t) := by
    rw [rd2, e1, rdU_numB (by omega) (by omega)]
  have e3 : rd3 0 (encE (a, b, c) ++ t) = (c.toNat, 0, t) := by
    rw [rd3, e2, rdU_numB (by omega) (by omega)]
  refine ⟨?_, by rw [e3], by rw [e3]⟩
  rw [rdX, e1, e2, e3]
  simp only
  rw [show ((a.toNat : Nat) : Int) = a by omega, show ((b.toNat : Nat) : Int) = b by omega, show ((c.toNat : Nat) : Int) = c by omega]
theorem rdEs_enc : ∀ (l' l : List En) (t : List Nat), WfL (l ++ l') → rdEs l'.length l 0 ((l'.map encE).flatten ++ t) = (l ++ l', 0, t)
  | [], l, t, _ => by simp [rdEs]
  | x :: l', l, t, hw => by
    have ho := hw.2 x (by simp)
    obtain ⟨e1, e2, e3⟩ := rdX_enc ho ((l'.map encE).flatten ++ t)
    have hb : ¬badE l x := by
      have hp := List.pairwise_append.1 hw.1
      simp only [okE] at ho
      rcases Nat.eq_zero_or_pos l.length with h0 | h0
      · obtain rfl : l = [] := List.eq_nil_of_length_eq_zero h0
        simp only [badE, List.getLastD_nil]; omega
      · have hl := last_at h0
        have := hp.2.2 _ (List.mem_of_getElem? hl) x (by simp)
        simp only [befE] at this
        simp only [badE]; omega
    rw [List.length_cons, rdEs, if_pos rfl, List.map_cons, List.flatten_cons, List.append_assoc, e1, e3, rdE, e1, if_neg hb, e2]
    rw [rdEs_enc l' (l ++ [x]) t (by rw [List.append_assoc]; exact hw)]
    simp
theorem rdBook_enc {l : List En} (hw : WfL l) (hl : l.length ≤ 16128) : rdBook (encL l) = (l, 0, []) := by
  rw [rdBook, encL, rdU_numB (by omega) hl]
  have := rdEs_enc l [] [] (by simpa using hw)
  simpa using this
theorem encL_lt {l : List En} : ∀ b ∈ encL l, b < 256 := by
  intro b hb
  rw [encL, List.mem_append, List.mem_flatten] at hb
  rcases hb with hb | ⟨c, hc, hb⟩
  · exact numB_lt b hb
  · obtain ⟨e, _, rfl⟩ := List.mem_map.1 hc
    rw [encE, List.mem_append, List.mem_append] at hb
    rcases hb with (hb | hb) | hb
    · exact numB_lt b hb
    · exact numB_lt b hb
    · exact numB_lt b hb
theorem encL_len {l : List En} (hw : WfL l) (hl : l.length ≤ 16128) : 1 ≤ (encL l).length ∧ (encL l).length < 1000000 := by
  have h1 := encK_len hw (by omega) l.length (Nat.le_refl _)
  rw [encK_end] at h1
  have := numB_pos l.length
  refine ⟨?_, by omega⟩
  rw [encL, List.length_append]; omega
end Go.Proofs.YtkmnlogacfkjmaaDoor
