/- THE REFERENCE's SETS (arbacref01.Members), and lists of numbers (package slices). -/
import Derived.Test.YtaooojjhlngcmaaDoorBits5
namespace Go.Proofs.YtaooojjhlngcmaaDoor
open Go.RowKit
theorem bit_dec (n i : Nat) : decide ((((n >>> i) % 2 : Nat) : Int) = 1) = n.testBit i := by
  rw [Nat.testBit_eq_decide_div_mod_eq, Nat.shiftRight_eq_div_pow]
  congr 1
  apply propext
  omega
def memL (n k : Nat) : List Nat := (List.range k).filter fun i => n.testBit i
theorem memL_succ (n k : Nat) : memL n (k + 1) = if n.testBit k then memL n k ++ [k] else memL n k := by
  unfold memL
  rw [List.range_succ, List.filter_append, List.filter_cons]
  split <;> simp
theorem memL_len (n k : Nat) : (memL n k).length ≤ k := by
  have := List.length_filter_le (fun i => n.testBit i) (List.range k)
  simpa [memL] using this
theorem ints_snoc (l : List Nat) (i : Nat) : ints (l ++ [i]) = ints l ++ [.int .i64 (i : Int)] := by simp [ints]
theorem maskOf_testBit (l : List Nat) (j : Nat) : (maskOf l).testBit j = decide (j ∈ l) := by
  have key : ∀ (l : List Nat) (m : Nat), (l.foldl (fun m i => m ||| 2 ^ i) m).testBit j = (m.testBit j || decide (j ∈ l)) := by
    intro l
    induction l with
    | nil => intro m; simp
    | cons i l ih =>
      intro m
      rw [List.foldl_cons, ih, Nat.testBit_or, Nat.testBit_two_pow]
      by_cases e : i = j
      · subst e; simp
      · have e' : ¬ j = i := fun h => e h.symm
        simp [e, e']
  rw [maskOf, key]
  simp
theorem maskOf_mem64 {n : Nat} (hn : n < 18446744073709551616) : maskOf (mem64 n) = n := by
  apply Nat.eq_of_testBit_eq
  intro j
  rw [maskOf_testBit]
  by_cases hj : n.testBit j = true
  · have : j < 64 := by
      rcases Nat.lt_or_ge j 64 with h | h
      · exact h
      · rw [testBit_big hn h] at hj; cases hj
    rw [hj, decide_eq_true (mem_mem64.2 ⟨this, hj⟩)]
  · have : j ∉ mem64 n := fun h => hj (mem_mem64.1 h).2
    rw [decide_eq_false this]
    simpa using hj
theorem SliceR.form {X : PMap} {v : Value} {len : Nat} {cs : List Value} (h : SliceR X v len cs) : ∃ A cp, v = .slice A len cp := by
  rcases h with ⟨h0, _, A, c, rfl⟩ | ⟨_, b, c, rfl, _⟩
  · exact ⟨A, c, by rw [h0]⟩
  · exact ⟨_, c, rfl⟩
theorem SliceR.blk {X : PMap} {A : Option Addr} {cp len : Nat} {cs : List Value} (h : SliceR X (.slice A len cp) len cs) (h0 : 0 < len) : ∃ b, A = some ⟨b, 0, none⟩ ∧ Blk X b cs := by
  rcases h with ⟨h0, _⟩ | ⟨_, b, c, he, hb⟩
  · omega
  · simp only [Value.slice.injEq] at he
    exact ⟨b, he.1, hb⟩
end Go.Proofs.YtaooojjhlngcmaaDoor
