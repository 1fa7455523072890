/- Expressions that are built of nodes: as lists and trees; no program in sight. -/
import Derived.Test.YtaooojjhlngcmaaDoorExR
namespace Go.Proofs.YtaooojjhlngcmaaDoor
open Go.RowKit
def words6 : List ByteArray := [⟨#[97]⟩, ⟨#[98]⟩, ⟨#[99]⟩, ⟨#[100]⟩, ⟨#[99, 108, 101, 114, 107]⟩, ⟨#[116, 101, 108, 108, 101, 114]⟩]
def words20 : List ByteArray := [⟨#[99, 108, 101, 114, 107]⟩, ⟨#[97, 117, 100, 105, 116, 111, 114]⟩, ⟨#[116, 101, 108, 108, 101, 114]⟩, ⟨#[104, 114]⟩, ⟨#[97]⟩, ⟨#[98]⟩, ⟨#[99, 50]⟩, ⟨#[120, 95, 49]⟩, ⟨#[99, 104, 105, 101, 102]⟩, ⟨#[110, 117, 114, 115, 101]⟩, ⟨#[97, 98, 99, 100, 101, 102, 103, 104, 105, 106, 107, 108]⟩, ⟨#[97, 98, 99, 100, 101, 102, 103, 104, 105, 106, 107, 108, 109]⟩, ⟨#[]⟩, ⟨#[65]⟩, ⟨#[50, 110, 100]⟩, ⟨#[95, 120]⟩, ⟨#[97, 45, 98]⟩, ⟨#[98, 121]⟩, ⟨#[117, 115, 101, 114, 115]⟩, ⟨#[97, 110, 100]⟩]
def word6 (n : Nat) : ByteArray := (words6[n % 6]?).getD ⟨#[]⟩
def word20 (n : Nat) : ByteArray := (words20[n % 20]?).getD ⟨#[]⟩
theorem word6_at (n : Nat) : words6[n % 6]? = some (word6 n) := by
  rw [word6, List.getElem?_eq_getElem (show n % 6 < words6.length from Nat.mod_lt _ (by decide))]; rfl
theorem word20_at (n : Nat) : words20[n % 20]? = some (word20 n) := by
  rw [word20, List.getElem?_eq_getElem (show n % 20 < words20.length from Nat.mod_lt _ (by decide))]; rfl
theorem word6_size (n : Nat) : (word6 n).size ≤ 13 := by
  have h : words6.all (fun s => decide (s.size ≤ 13)) = true := by decide +kernel
  have := List.all_eq_true.1 h _ (List.mem_of_getElem? (word6_at n))
  simpa using this
theorem word20_size (n : Nat) : (word20 n).size ≤ 13 := by
  have h : words20.all (fun s => decide (s.size ≤ 13)) = true := by decide +kernel
  have := List.all_eq_true.1 h _ (List.mem_of_getElem? (word20_at n))
  simpa using this
structure Nd where
  op : Nat
  name : Nat
  odd : Nat
  num : Int
def ndC (x : Nd) : List Value := [.int .u8 (x.op : Int), .int .u8 (x.name : Int), .int .u8 (x.odd : Int), .int .i64 x.num]
theorem ndC_len (x : Nd) : (ndC x).length = 4 := rfl
def ndOk (x : Nd) : Prop := x.op < 256 ∧ x.name < 256 ∧ x.odd < 256
def takeN : List Nd → Nd × List Nd
  | [] => (⟨2, 0, 0, 0⟩, [])
  | x :: l => (x, l)
/-- The operator at this depth. -/
def opN (d op : Nat) : Nat := if d = 0 ∧ 0 < argN op then 4 else op
def namesN (op name : Nat) : List ByteArray := if op = 5 ∧ 0 < name % 3 then [word6 name, word6 ((name + 1) % 256), word6 ((name + 3) % 256)] else if 4 ≤ op ∧ op ≤ 6 then [word6 name] else []
/-- What Odd makes of the parts. -/
def oddE (x : Nd) (op : Nat) (al : List Ex) : Ex :=
  let n := if op = 1 then x.num else 0
  let ns := namesN op x.name
  if x.odd = 1 then .mk op n ns (al ++ [.mk 2 0 [] []]) else if x.odd = 2 then .mk op n ns [] else if x.odd = 3 then .mk op n (ns ++ [word6 x.name]) al else if x.odd = 4 then .mk op x.num ns al else if x.odd = 5 then .mk op n [word20 x.name] al else .mk op n ns al
/-- k expressions, one after the other. -/
def manyN (f : List Nd → Ex × List Nd) : Nat → List Nd → List Ex × List Nd
  | 0, l => ([], l)
  | k + 1, l => ((manyN f k l).1 ++ [(f (manyN f k l).2).1], (f (manyN f k l).2).2)
def buildE : Nat → List Nd → Ex × List Nd
  | 0, l => (oddE (takeN l).1 (opN 0 (takeN l).1.op) [], (takeN l).2)
  | d + 1, l => (oddE (takeN l).1 (opN (d + 1) (takeN l).1.op) (manyN (buildE d) (argN (takeN l).1.op) (takeN l).2).1, (manyN (buildE d) (argN (takeN l).1.op) (takeN l).2).2)
theorem takeN_ok {l : List Nd} (h : ∀ x ∈ l, ndOk x) : ndOk (takeN l).1 ∧ ∀ x ∈ (takeN l).2, ndOk x := by
  cases l with
  | nil => exact ⟨⟨by decide, by decide, by decide⟩, fun _ h => by cases h⟩
  | cons x l => exact ⟨h x (by simp), fun y hy => h y (by simp [takeN] at hy; simp [hy])⟩
theorem manyN_ok {f : List Nd → Ex × List Nd} (hf : ∀ l, (∀ x ∈ l, ndOk x) → ∀ x ∈ (f l).2, ndOk x) {l : List Nd} (h : ∀ x ∈ l, ndOk x) : ∀ k, ∀ x ∈ (manyN f k l).2, ndOk x
  | 0 => h
  | k + 1 => hf _ (manyN_ok hf h k)
theorem build_ok : ∀ (d : Nat) (l : List Nd), (∀ x ∈ l, ndOk x) → ∀ x ∈ (buildE d l).2, ndOk x
  | 0, _, h => (takeN_ok h).2
  | d + 1, _, h => manyN_ok (build_ok d) (takeN_ok h).2 _
theorem manyN_len (f : List Nd → Ex × List Nd) (l : List Nd) : ∀ k, (manyN f k l).1.length = k
  | 0 => rfl
  | k + 1 => by rw [manyN, List.length_append, manyN_len f l k]; rfl
theorem manyN_wt {f : List Nd → Ex × List Nd} {b : Nat} (hf : ∀ l, wtE (f l).1 ≤ b) (l : List Nd) : ∀ k, wtL (manyN f k l).1 ≤ k * b
  | 0 => by simp [manyN, wtL]
  | k + 1 => by
    rw [manyN, wtL_snoc, Nat.succ_mul]
    have := manyN_wt hf l k
    have := hf (manyN f k l).2
    omega
theorem namesN_wt (op name : Nat) : wtS (namesN op name) ≤ 42 := by
  have := word6_size name
  have := word6_size ((name + 1) % 256)
  have := word6_size ((name + 3) % 256)
  unfold namesN
  split
  · simp only [wtS, List.map_cons, List.map_nil, List.sum_cons, List.sum_nil]; omega
  · split
    · simp only [wtS, List.map_cons, List.map_nil, List.sum_cons, List.sum_nil]; omega
    · simp [wtS]
theorem wtS_app (a b : List ByteArray) : wtS (a ++ b) = wtS a + wtS b := by simp [wtS]
theorem oddE_wt (x : Nd) (op : Nat) (al : List Ex) : wtE (oddE x op al) ≤ wtL al + 58 := by
  have h1 := namesN_wt op x.name
  have h2 := word6_size x.name
  have h3 := word20_size x.name
  simp only [oddE]
  split
  · rw [wtE, wtL_snoc, wtE, wtL]; simp only [wtS, List.map_nil, List.sum_nil] at h1 ⊢; omega
  · split
    · rw [wtE, wtL]; omega
    · split
      · rw [wtE, wtS_app]; simp only [wtS, List.map_cons, List.map_nil, List.sum_cons, List.sum_nil] at h1 ⊢; omega
      · split
        · rw [wtE]; omega
        · split
          · rw [wtE]; simp only [wtS, List.map_cons, List.map_nil, List.sum_cons, List.sum_nil]; omega
          · rw [wtE]; omega
theorem argN_le (op : Nat) : argN op ≤ 2 := by
  unfold argN
  split
  · omega
  · split <;> omega
theorem build_wt : ∀ (d : Nat) (l : List Nd), wtE (buildE d l).1 ≤ 60 * (2 ^ (d + 1) - 1)
  | 0, l => by
    have := oddE_wt (takeN l).1 (opN 0 (takeN l).1.op) []
    rw [wtL] at this
    rw [buildE]; simp only at this ⊢; omega
  | d + 1, l => by
    have h1 := oddE_wt (takeN l).1 (opN (d + 1) (takeN l).1.op) (manyN (buildE d) (argN (takeN l).1.op) (takeN l).2).1
    have h2 := manyN_wt (fun l => build_wt d l) (takeN l).2 (argN (takeN l).1.op)
    have h3 := Nat.mul_le_mul_right (60 * (2 ^ (d + 1) - 1)) (argN_le (takeN l).1.op)
    have h4 : 0 < 2 ^ (d + 1) := Nat.pow_pos (by omega)
    have h5 : 2 ^ (d + 1 + 1) = 2 * 2 ^ (d + 1) := by rw [Nat.pow_succ]; omega
    rw [buildE]; simp only
    rw [h5]
    generalize 2 ^ (d + 1) = p at *
    omega
/-- The expression of at most 60 nodes. -/
def builtE (l : List Nd) : Ex := (buildE 11 (l.take 60)).1
theorem built_wt (l : List Nd) : wtE (builtE l) < 300000 := by
  have := build_wt 11 (l.take 60)
  rw [builtE]
  have e : (2 : Nat) ^ (11 + 1) = 4096 := by decide
  rw [e] at this; omega
end Go.Proofs.YtaooojjhlngcmaaDoor
