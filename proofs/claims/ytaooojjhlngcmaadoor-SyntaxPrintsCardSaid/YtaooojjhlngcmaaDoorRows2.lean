/- Slices of rows: what the argument's cells hold. -/
import Derived.Test.YtaooojjhlngcmaaDoorEngine2
namespace Go.Proofs.YtaooojjhlngcmaaDoor
open Go.RowKit
section
variable {α : Type} {rc : α → List Value}
def RowR (rc : α → List Value) (X : PMap) (v : Value) (rs : List α) : Prop :=
  (rs = [] ∧ ∃ A c, v = .slice A 0 c) ∨ (0 < rs.length ∧ ∃ b c pre, v = .slice (some ⟨b, List.length pre, none⟩) rs.length c ∧ Blk X b (pre ++ (rs.map rc).flatten) ∧ rs.length ≤ c ∧ c ≤ maxLen)
theorem RowR.nil {X : PMap} {A : Option Addr} {c : Nat} : RowR rc X (.slice A 0 c) [] := .inl ⟨rfl, _, _, rfl⟩
theorem RowR.mono {X X' : PMap} {v : Value} {rs : List α} (h : RowR rc X v rs) (hX : X.le X') : RowR rc X' v rs := by
  rcases h with h | ⟨h0, b, c, pre, hv, hb, hc⟩
  · exact .inl h
  · exact .inr ⟨h0, b, c, pre, hv, hb.mono hX, hc⟩
theorem RowR.form {X : PMap} {v : Value} {rs : List α} (h : RowR rc X v rs) : ∃ A cp, v = .slice A rs.length cp := by
  rcases h with ⟨rfl, A, c, rfl⟩ | ⟨_, b, c, pre, rfl, _⟩
  · exact ⟨_, _, rfl⟩
  · exact ⟨_, _, rfl⟩
theorem RowR.blk {X : PMap} {A : Option Addr} {cp len : Nat} {rs : List α} (h : RowR rc X (.slice A len cp) rs) (h0 : 0 < rs.length) : ∃ b pre, A = some ⟨b, List.length pre, none⟩ ∧ Blk X b (pre ++ (rs.map rc).flatten) := by
  rcases h with ⟨rfl, _⟩ | ⟨_, b, c, pre, hv, hb, _⟩
  · simp at h0
  · simp only [Value.slice.injEq] at hv
    exact ⟨b, pre, hv.1, hb⟩
theorem RowR.cap {X : PMap} {A : Option Addr} {cp len : Nat} {rs : List α} (h : RowR rc X (.slice A len cp) rs) (h0 : 0 < rs.length) : rs.length ≤ cp ∧ cp ≤ maxLen := by
  rcases h with ⟨rfl, _⟩ | ⟨_, b, c, pre, hv, hb, h1, h2⟩
  · simp at h0
  · simp only [Value.slice.injEq] at hv
    rw [hv.2.2]; exact ⟨h1, h2⟩
theorem rows_len {sz : Nat} (hrc : ∀ x, (rc x).length = sz) : ∀ rs : List α, ((rs.map rc).flatten).length = rs.length * sz
  | [] => by simp
  | r :: rs => by
    rw [List.map_cons, List.flatten_cons, List.length_append, hrc, rows_len hrc rs, List.length_cons, Nat.succ_mul]; omega
theorem rows_drop {sz : Nat} (hrc : ∀ x, (rc x).length = sz) : ∀ {rs : List α} {k : Nat}, k ≤ rs.length → ((rs.map rc).flatten).drop (k * sz) = ((rs.drop k).map rc).flatten
  | rs, 0, _ => by simp
  | [], k + 1, h => by simp at h
  | r :: rs, k + 1, h => by
    rw [List.map_cons, List.flatten_cons, List.drop_succ_cons, ← rows_drop hrc (rs := rs) (k := k) (by simpa using h), show (k + 1) * sz = (rc r).length + k * sz by rw [hrc, Nat.succ_mul]; omega]
    rw [List.drop_append, List.drop_eq_nil_of_le (by omega), List.nil_append, Nat.add_sub_cancel_left]
theorem rows_take {sz : Nat} (hrc : ∀ x, (rc x).length = sz) : ∀ {rs : List α} {k : Nat}, k ≤ rs.length → ((rs.map rc).flatten).take (k * sz) = ((rs.take k).map rc).flatten
  | rs, 0, _ => by simp
  | [], k + 1, h => by simp at h
  | r :: rs, k + 1, h => by
    rw [List.map_cons, List.flatten_cons, List.take_succ_cons, List.map_cons, List.flatten_cons, ← rows_take hrc (rs := rs) (k := k) (by simpa using h), show (k + 1) * sz = (rc r).length + k * sz by rw [hrc, Nat.succ_mul]; omega]
    rw [List.take_append, List.take_of_length_le (by omega), Nat.add_sub_cancel_left]
/-- A whole row, read. -/
theorem row_read {sz : Nat} (hrc : ∀ x, (rc x).length = sz) {rs : List α} {k k' : Nat} {r : α} {pre : List Value} (he : rs[k]? = some r) (e : k' = pre.length + k * sz) : cread true sz (pre ++ (rs.map rc).flatten) k' = some (.agg (rc r).toArray) := by
  subst e
  obtain ⟨h1, h2⟩ := List.getElem?_eq_some_iff.1 he
  have hl := rows_len hrc rs
  have hm : k * sz + sz ≤ rs.length * sz := by
    have := Nat.mul_le_mul_right sz (show k + 1 ≤ rs.length from h1)
    rw [Nat.succ_mul] at this; exact this
  have hd : ((pre ++ (rs.map rc).flatten).drop (pre.length + k * sz)) = rc r ++ ((rs.drop (k + 1)).map rc).flatten := by
    rw [List.drop_append, List.drop_eq_nil_of_le (by omega), List.nil_append, Nat.add_sub_cancel_left, rows_drop hrc (by omega), List.drop_eq_getElem_cons h1, h2, List.map_cons, List.flatten_cons]
  unfold cread
  rw [show Nat.ble (pre.length + k * sz + sz) (pre ++ (rs.map rc).flatten).length = true from Nat.ble_eq_true_of_le (by rw [List.length_append, hl]; omega)]
  simp only [cond_true, hd]
  rw [List.take_append_of_le_length (by rw [hrc]; exact Nat.le_refl _), List.take_of_length_le (by rw [hrc]; exact Nat.le_refl _)]
/-- One cell of a row. -/
theorem row_cell {sz : Nat} (hrc : ∀ x, (rc x).length = sz) {rs : List α} {k k' j : Nat} {r : α} {pre : List Value} {v : Value} (he : rs[k]? = some r) (hj : (rc r)[j]? = some v) (e : k' = pre.length + k * sz + j) : cread false 1 (pre ++ (rs.map rc).flatten) k' = some v := by
  subst e
  obtain ⟨h1, h2⟩ := List.getElem?_eq_some_iff.1 he
  have hjl : j < sz := by have := (List.getElem?_eq_some_iff.1 hj).1; rwa [hrc] at this
  show (pre ++ (rs.map rc).flatten)[pre.length + k * sz + j]? = some v
  rw [List.getElem?_append_right (by omega), show pre.length + k * sz + j - pre.length = k * sz + j by omega, ← List.getElem?_drop, rows_drop hrc (by omega), List.drop_eq_getElem_cons h1, h2, List.map_cons, List.flatten_cons, List.getElem?_append_left (by rw [hrc]; exact hjl)]
  exact hj
/-- The first of these rows. -/
theorem RowR.take {X : PMap} {A : Option Addr} {cp sz : Nat} {rs : List α} (h : RowR rc X (.slice A rs.length cp) rs) {k : Nat} (hk : k ≤ rs.length) : RowR rc X (.slice (slA A cp 0 sz) k cp) (rs.take k) := by
  rcases Nat.eq_zero_or_pos k with rfl | h0
  · exact .inl ⟨by simp, _, _, rfl⟩
  · obtain ⟨b, pre, rfl, hB⟩ := h.blk (by omega)
    obtain ⟨hc, hm⟩ := h.cap (by omega)
    have hcp : cp ≠ 0 := by omega
    refine .inr ⟨by simp; omega, b, cp, pre, ?_, ?_, by rw [List.length_take]; omega, hm⟩
    · rw [slA, if_neg hcp, List.length_take, Nat.min_eq_left hk]; simp [Addr.add]
    · obtain ⟨rest, ty, fr, hx⟩ := hB
      refine ⟨((rs.drop k).map rc).flatten ++ rest, ty, fr, ?_⟩
      have e : (rs.map rc).flatten = ((rs.take k).map rc).flatten ++ ((rs.drop k).map rc).flatten := by rw [← List.flatten_append, ← List.map_append, List.take_append_drop]
      rw [hx, e]
      simp
end
end Go.Proofs.YtaooojjhlngcmaaDoor
