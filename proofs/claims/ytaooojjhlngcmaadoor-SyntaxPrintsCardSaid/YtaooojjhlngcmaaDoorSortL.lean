/- Sorting by insertion: what its rounds keep. No program in sight. -/
import Derived.Test.YtaooojjhlngcmaaDoorStrs
namespace Go.Proofs.YtaooojjhlngcmaaDoor
open Go.RowKit
/-- In the round of place i the string that is put in stands at j. -/
def Ins (bs : List ByteArray) (i j : Nat) : Prop := ∃ (pre : List ByteArray) (x : ByteArray) (mid post : List ByteArray), bs = pre ++ x :: (mid ++ post) ∧ pre.length = j ∧ j + mid.length = i ∧ AscS (pre ++ mid) ∧ ∀ y ∈ mid, ltS x y = true
theorem Ins.start {bs : List ByteArray} {i : Nat} (hi : i < bs.length) (h : AscS (bs.take i)) : Ins bs i i := by
  refine ⟨bs.take i, bs[i], [], bs.drop (i + 1), ?_, by rw [List.length_take]; omega, by simp, by simpa using h, fun _ h => by cases h⟩
  rw [List.nil_append, ← List.drop_eq_getElem_cons hi, List.take_append_drop]
theorem swap_mid {α : Type} {pre : List α} {p x : α} {r : List α} : ((pre ++ p :: x :: r).set (pre.length + 1) p).set pre.length x = pre ++ x :: p :: r := by
  rw [List.set_append_right _ _ (by omega), show pre.length + 1 - pre.length = 1 by omega, List.set_append_right _ _ (by omega), Nat.sub_self]
  rfl
theorem Ins.step {bs : List ByteArray} {i j : Nat} {x p : ByteArray} (h : Ins bs i (j + 1)) (hx : bs[j + 1]? = some x) (hp : bs[j]? = some p) (hlt : ltS x p = true) : Ins ((bs.set (j + 1) p).set j x) i j ∧ ((bs.set (j + 1) p).set j x).Perm bs := by
  obtain ⟨pre, x', mid, post, rfl, h1, h2, h3, h4⟩ := h
  have hpre : pre = pre.dropLast ++ [pre.getLast (by intro h; rw [h] at h1; simp at h1)] := (List.dropLast_concat_getLast _).symm
  generalize hq : pre.getLast _ = q at hpre
  generalize pre.dropLast = pr at hpre
  subst hpre
  have hl : pr.length = j := by rw [List.length_append] at h1; simp at h1; exact h1
  obtain rfl : x' = x := by
    rw [List.getElem?_append_right (by omega), h1, Nat.sub_self] at hx
    simpa using hx
  obtain rfl : q = p := by
    rw [List.append_assoc, List.getElem?_append_right (by omega), hl, Nat.sub_self] at hp
    simpa using hp
  have e : (((pr ++ [q]) ++ x' :: (mid ++ post)).set (j + 1) q).set j x' = pr ++ x' :: q :: (mid ++ post) := by
    rw [List.append_assoc, ← hl]
    exact swap_mid
  rw [e]
  refine ⟨⟨pr, x', q :: mid, post, by simp, hl, by simp only [List.length_cons]; omega, by simpa using h3, fun y hy => ?_⟩, ?_⟩
  · rcases List.mem_cons.1 hy with rfl | hy
    · exact hlt
    · exact h4 y hy
  · rw [List.append_assoc]
    exact List.Perm.append_left _ (List.Perm.swap _ _ _)
theorem Ins.fin {bs : List ByteArray} {i j : Nat} {x : ByteArray} (h : Ins bs i j) (hx : bs[j]? = some x) (hs : j = 0 ∨ ∃ p, bs[j - 1]? = some p ∧ ltS x p = false) : AscS (bs.take (i + 1)) := by
  obtain ⟨pre, x', mid, post, rfl, h1, h2, h3, h4⟩ := h
  obtain rfl : x' = x := by
    rw [List.getElem?_append_right (by omega), h1, Nat.sub_self] at hx
    simpa using hx
  have e : (pre ++ x' :: (mid ++ post)).take (i + 1) = pre ++ x' :: mid := by
    rw [List.take_append, List.take_of_length_le (by omega), show i + 1 - pre.length = mid.length + 1 by omega, List.take_succ_cons, List.take_left]
  rw [e]
  obtain ⟨g1, g2, g3⟩ := List.pairwise_append.1 h3
  have hle : ∀ a ∈ pre, ltS x' a = false := by
    intro a ha
    rcases hs with rfl | ⟨p, hp, hlt⟩
    · rw [List.eq_nil_of_length_eq_zero h1] at ha; cases ha
    · obtain ⟨k, hk, rfl⟩ := List.getElem_of_mem ha
      rw [List.getElem?_append_left (by omega)] at hp
      obtain ⟨hp1, hp2⟩ := List.getElem?_eq_some_iff.1 hp
      rcases Nat.lt_or_ge k (j - 1) with hkj | hkj
      · have := List.pairwise_iff_getElem.1 g1 k (j - 1) hk hp1 hkj
        rw [hp2] at this
        exact le_trans' this hlt
      · have : k = j - 1 := by omega
        subst this
        rw [hp2]; exact hlt
  refine List.pairwise_append.2 ⟨g1, List.pairwise_cons.2 ⟨fun y hy => lt_asym (h4 y hy), g2⟩, fun a ha b hb => ?_⟩
  rcases List.mem_cons.1 hb with rfl | hb
  · exact hle a ha
  · exact g3 a ha b hb
theorem asc_one {bs : List ByteArray} (h : bs.length ≤ 1) : AscS bs := by
  match bs, h with
  | [], _ => exact List.Pairwise.nil
  | [_], _ => exact List.pairwise_singleton ..
end Go.Proofs.YtaooojjhlngcmaaDoor
