/- SETS OF SMALL NUMBERS: from a list. -/
import Derived.Test.YtaooojjhlngcmaaDoorBits2
namespace Go.Proofs.YtaooojjhlngcmaaDoor
/-- The set of the numbers of a list. -/
def maskOf (l : List Nat) : Nat := l.foldl (fun m i => m ||| 2 ^ i) 0
theorem maskOf_take_succ (l : List Nat) (j : Nat) (h : j < l.length) : maskOf (l.take (j + 1)) = maskOf (l.take j) ||| 2 ^ l[j] := by
  unfold maskOf
  rw [List.take_succ_eq_append_getElem h, List.foldl_append]
  rfl
theorem maskOf_lt (l : List Nat) (h : ∀ i ∈ l, i < 64) : maskOf l < 18446744073709551616 := by
  have key : ∀ (l : List Nat) (m : Nat), m < 18446744073709551616 → (∀ i ∈ l, i < 64) → l.foldl (fun m i => m ||| 2 ^ i) m < 18446744073709551616 := by
    intro l
    induction l with
    | nil => intro m hm _; exact hm
    | cons i l ih => intro m hm h; exact ih _ (or_bit_lt hm (h i (by simp))) fun j hj => h j (by simp [hj])
  exact key l 0 (by omega) h

theorem top_step {l : List Nat} {j : Nat} {top : Int} {hjl : j < l.length} (hall : ∀ q (h : q < l.length), q < j → (l[q] : Int) ≤ top) : ∀ q (h : q < l.length), q < j + 1 → (l[q] : Int) ≤ if (l[j] : Int) > top then (l[j] : Int) else top := by
  intro q hq hqj
  rcases Nat.lt_or_ge q j with h | h
  · have := hall q hq h
    split <;> omega
  · have e : q = j := by omega
    subst e
    split <;> omega
end Go.Proofs.YtaooojjhlngcmaaDoor
