/- Expressions as trees: nesting, size, names, errors, texts. No program in sight. -/
import Derived.Test.YtaooojjhlngcmaaDoorEngine2
namespace Go.Proofs.YtaooojjhlngcmaaDoor
open Go.RowKit
inductive Ex where
  | mk (op : Nat) (n : Int) (ns : List ByteArray) (al : List Ex)
def Ex.op : Ex → Nat
  | .mk o _ _ _ => o
def Ex.al : Ex → List Ex
  | .mk _ _ _ a => a
mutual
def depE : Ex → Nat
  | .mk _ _ _ al => depL al + 1
def depL : List Ex → Nat
  | [] => 0
  | a :: al => max (depE a) (depL al)
end
mutual
def sizE : Ex → Nat
  | .mk _ _ _ al => sizL al + 1
def sizL : List Ex → Nat
  | [] => 0
  | a :: al => sizE a + sizL al
end
def wtS (ns : List ByteArray) : Nat := (ns.map fun s => s.size + 1).sum
/- What an expression weighs: operators, names and their bytes. -/
mutual
def wtE : Ex → Nat
  | .mk _ _ ns al => wtS ns + wtL al + 1
def wtL : List Ex → Nat
  | [] => 0
  | a :: al => wtE a + wtL al
end
theorem depL_snoc (a : Ex) : ∀ l : List Ex, depL (l ++ [a]) = max (depL l) (depE a)
  | [] => by simp [depL]
  | x :: l => by rw [List.cons_append, depL, depL, depL_snoc a l]; omega
theorem sizL_app (b : List Ex) : ∀ l : List Ex, sizL (l ++ b) = sizL l + sizL b
  | [] => by simp [sizL]
  | x :: l => by rw [List.cons_append, sizL, sizL, sizL_app b l]; omega
theorem wtL_app (b : List Ex) : ∀ l : List Ex, wtL (l ++ b) = wtL l + wtL b
  | [] => by simp [wtL]
  | x :: l => by rw [List.cons_append, wtL, wtL, wtL_app b l]; omega
theorem sizL_snoc (a : Ex) (l : List Ex) : sizL (l ++ [a]) = sizL l + sizE a := by rw [sizL_app]; simp [sizL]
theorem wtL_snoc (a : Ex) (l : List Ex) : wtL (l ++ [a]) = wtL l + wtE a := by rw [wtL_app]; simp [wtL]
theorem wtL_mem {a : Ex} : ∀ {l : List Ex}, a ∈ l → wtE a ≤ wtL l
  | x :: l, h => by
    rw [wtL]
    rcases List.mem_cons.1 h with rfl | h
    · omega
    · have := wtL_mem h; omega
theorem wtL_len : ∀ l : List Ex, l.length ≤ wtL l
  | [] => by simp
  | x :: l => by
    have := wtL_len l
    cases x
    rw [wtL, wtE, List.length_cons]; omega
theorem wtS_len (ns : List ByteArray) : ns.length ≤ wtS ns := by
  induction ns with
  | nil => simp
  | cons s l ih => simp only [wtS, List.map_cons, List.sum_cons, List.length_cons] at ih ⊢; omega
theorem wtS_mem {s : ByteArray} {ns : List ByteArray} (h : s ∈ ns) : s.size + 1 ≤ wtS ns := by
  induction ns with
  | nil => cases h
  | cons x l ih =>
    simp only [wtS, List.map_cons, List.sum_cons] at ih ⊢
    rcases List.mem_cons.1 h with rfl | h
    · omega
    · have := ih h; omega
theorem wt_arg {op : Nat} {n : Int} {ns : List ByteArray} {al : List Ex} {a : Ex} (h : a ∈ al) : wtE a < wtE (.mk op n ns al) := by
  have := wtL_mem h; rw [wtE]; omega
mutual
theorem dep_wt : ∀ e : Ex, depE e ≤ wtE e
  | .mk _ _ _ al => by have := depL_wt al; rw [depE, wtE]; omega
theorem depL_wt : ∀ l : List Ex, depL l ≤ wtL l
  | [] => by simp [depL]
  | a :: al => by have := dep_wt a; have := depL_wt al; rw [depL, wtL]; omega
end
mutual
theorem siz_wt : ∀ e : Ex, sizE e ≤ wtE e
  | .mk _ _ _ al => by have := sizL_wt al; rw [sizE, wtE]; omega
theorem sizL_wt : ∀ l : List Ex, sizL l ≤ wtL l
  | [] => by simp [sizL]
  | a :: al => by have := siz_wt a; have := sizL_wt al; rw [sizL, wtL]; omega
end
def str (l : List UInt8) : ByteArray := ⟨l.toArray⟩
/-- The words that are no names. -/
def keyws : List ByteArray := [⟨#[97, 108, 108]⟩, ⟨#[97, 110, 100]⟩, ⟨#[97, 115, 115, 105, 103, 110]⟩, ⟨#[98, 121]⟩, ⟨#[99, 111, 117, 110, 116]⟩, ⟨#[100, 101, 99, 108, 97, 114, 101]⟩, ⟨#[100, 121, 110, 97, 109, 105, 99]⟩, ⟨#[101, 110, 102, 111, 114, 99, 101]⟩, ⟨#[102, 97, 108, 115, 101]⟩, ⟨#[102, 111, 114]⟩, ⟨#[105, 102]⟩, ⟨#[109, 101, 109, 98, 101, 114, 115]⟩, ⟨#[110, 111, 110, 101]⟩, ⟨#[110, 111, 116]⟩, ⟨#[111, 110]⟩, ⟨#[111, 114]⟩, ⟨#[114, 101, 118, 111, 107, 101]⟩, ⟨#[115, 116, 97, 116, 105, 99]⟩, ⟨#[116, 114, 117, 101]⟩, ⟨#[117, 115, 101, 114, 115]⟩]
def letB (b : UInt8) : Bool := decide (97 ≤ b.toNat ∧ b.toNat ≤ 122)
def innB (b : UInt8) : Bool := decide (97 ≤ b.toNat ∧ b.toNat ≤ 122 ∨ 48 ≤ b.toNat ∧ b.toNat ≤ 57 ∨ b.toNat = 95)
/-- The bytes of a name from the place i on. -/
def formB (s : ByteArray) (i : Nat) : Prop := ∀ k b, i ≤ k → s[k]? = some b → innB b = true ∧ (k = 0 → letB b = true)
/-- A name. -/
def validS (s : ByteArray) : Prop := s.size ≠ 0 ∧ s.size ≤ 12 ∧ s ∉ keyws ∧ formB s 0
noncomputable instance (s : ByteArray) : Decidable (validS s) := Classical.propDecidable _
/-- How many operands an operator has. -/
def argN (op : Nat) : Nat := if op < 7 then 0 else if op = 7 then 1 else 2
/-- A permitted number of names. -/
def namN (op k : Nat) : Prop := if op = 4 ∨ op = 6 then k = 1 else if op = 5 then 1 ≤ k ∧ k ≤ 8 else k = 0
instance (op k : Nat) : Decidable (namN op k) := by unfold namN; infer_instance
/-- The error of an operator without its operands. -/
noncomputable def ownE (op : Nat) (n : Int) (ns : List ByteArray) (k : Nat) : Int :=
  if op < 1 ∨ 16 < op ∨ k ≠ argN op then 1 else if (n ≠ 0 ∧ op ≠ 1) ∨ ¬namN op ns.length then 6 else if ¬(∀ s ∈ ns, validS s) then 9 else if ¬ns.Nodup then 5 else if n < 0 ∨ 999999 < n then 2 else 0
mutual
noncomputable def nodeE : Ex → Int
  | .mk op n ns al => if ownE op n ns al.length ≠ 0 then ownE op n ns al.length else nodeL al
noncomputable def nodeL : List Ex → Int
  | [] => 0
  | a :: al => if nodeE a ≠ 0 then nodeE a else nodeL al
end
theorem nodeL_app (b : List Ex) : ∀ l : List Ex, nodeL (l ++ b) = if nodeL l ≠ 0 then nodeL l else nodeL b
  | [] => by simp [nodeL]
  | x :: l => by
    rw [List.cons_append, nodeL, nodeL, nodeL_app b l]
    by_cases h : nodeE x ≠ 0
    · simp [h]
    · simp only [h, if_false]
theorem nodeL_zero {l : List Ex} (h : nodeL l = 0) : ∀ a ∈ l, nodeE a = 0 := by
  induction l with
  | nil => intro a ha; cases ha
  | cons x l ih =>
    rw [nodeL] at h
    by_cases hx : nodeE x ≠ 0
    · rw [if_pos hx] at h; exact absurd h hx
    · rw [if_neg hx] at h
      intro a ha
      rcases List.mem_cons.1 ha with rfl | ha
      · exact Decidable.not_not.1 hx
      · exact ih h a ha
noncomputable def chkE (e : Ex) : Int := if 10 < depE e ∨ 200 < sizE e then 3 else nodeE e
theorem node_ok {op : Nat} {n : Int} {ns : List ByteArray} {al : List Ex} (h : nodeE (.mk op n ns al) = 0) : ownE op n ns al.length = 0 ∧ nodeL al = 0 := by
  rw [nodeE] at h
  by_cases hx : ownE op n ns al.length ≠ 0
  · rw [if_pos hx] at h; exact absurd h hx
  · rw [if_neg hx] at h; exact ⟨Decidable.not_not.1 hx, h⟩
theorem own_ok {op k : Nat} {n : Int} {ns : List ByteArray} (h : ownE op n ns k = 0) : 1 ≤ op ∧ op ≤ 16 ∧ k = argN op ∧ (op ≠ 1 → n = 0) ∧ namN op ns.length ∧ (∀ s ∈ ns, validS s) ∧ ns.Nodup ∧ 0 ≤ n ∧ n ≤ 999999 := by
  unfold ownE at h
  by_cases h1 : op < 1 ∨ 16 < op ∨ k ≠ argN op
  · rw [if_pos h1] at h; omega
  · rw [if_neg h1] at h
    by_cases h2 : (n ≠ 0 ∧ op ≠ 1) ∨ ¬namN op ns.length
    · rw [if_pos h2] at h; omega
    · rw [if_neg h2] at h
      by_cases h3 : ¬(∀ s ∈ ns, validS s)
      · rw [if_pos h3] at h; omega
      · rw [if_neg h3] at h
        by_cases h4 : ¬ns.Nodup
        · rw [if_pos h4] at h; omega
        · rw [if_neg h4] at h
          by_cases h5 : n < 0 ∨ 999999 < n
          · rw [if_pos h5] at h; omega
          · exact ⟨by omega, by omega, by omega, fun hop => Decidable.not_not.1 fun hn => h2 (.inl ⟨hn, hop⟩), Decidable.not_not.1 fun hn => h2 (.inr hn), Decidable.not_not.1 h3, Decidable.not_not.1 h4, by omega, by omega⟩
/-- How strongly an operator binds. -/
def strN (op : Nat) : Nat := if op = 10 then 1 else if op = 9 then 2 else if op = 8 then 3 else if op = 7 then 4 else if 11 ≤ op ∧ op ≤ 15 then 5 else if op = 16 then 6 else 7
/-- A number in decimal. -/
def decG : Nat → Nat → List UInt8
  | 0, _ => []
  | f + 1, v => if v < 10 then [UInt8.ofNat (48 + v)] else decG f (v / 10) ++ [UInt8.ofNat (48 + v % 10)]
def decB (v : Nat) : ByteArray := ⟨(decG 20 v).toArray⟩
def joinG : List ByteArray → List UInt8
  | [] => []
  | s :: l => s.data.toList ++ (l.map fun t => [44, 32] ++ t.data.toList).flatten
def joinB (l : List ByteArray) : ByteArray := ⟨(joinG l).toArray⟩
/-- The word of an operator with two operands. -/
def wordB (op : Nat) : ByteArray := match op with
  | 8 => ⟨#[32, 97, 110, 100, 32]⟩ | 9 => ⟨#[32, 111, 114, 32]⟩ | 10 => ⟨#[32, 45, 62, 32]⟩ | 11 => ⟨#[32, 60, 61, 32]⟩ | 12 => ⟨#[32, 60, 32]⟩ | 13 => ⟨#[32, 62, 61, 32]⟩ | 14 => ⟨#[32, 62, 32]⟩ | 15 => ⟨#[32, 61, 61, 32]⟩ | _ => ⟨#[32, 43, 32]⟩
def parB (s : Nat) (t : ByteArray) (least : Nat) : ByteArray := if s < least then ⟨#[40]⟩ ++ t ++ ⟨#[41]⟩ else t
def lefN (op : Nat) : Nat := if op = 10 then strN op + 1 else if strN op = 5 then strN op + 1 else strN op
def rigN (op : Nat) : Nat := if op = 10 then strN op else strN op + 1
mutual
def textE : Ex → ByteArray
  | .mk op n ns al =>
    if op = 1 then decB n.toNat else if op = 2 then ⟨#[116, 114, 117, 101]⟩ else if op = 3 then ⟨#[102, 97, 108, 115, 101]⟩ else if op = 4 then ns.headD ⟨#[]⟩
    else if op = 5 then ⟨#[99, 111, 117, 110, 116, 40]⟩ ++ joinB ns ++ ⟨#[41]⟩ else if op = 6 then ⟨#[109, 101, 109, 98, 101, 114, 115, 40]⟩ ++ ns.headD ⟨#[]⟩ ++ ⟨#[41]⟩
    else match textL al with
      | [] => ⟨#[]⟩
      | [x] => ⟨#[110, 111, 116, 32]⟩ ++ parB x.1 x.2 4
      | x :: y :: _ => parB x.1 x.2 (lefN op) ++ wordB op ++ parB y.1 y.2 (rigN op)
def textL : List Ex → List (Nat × ByteArray)
  | [] => []
  | a :: al => (strN a.op, textE a) :: textL al
end
end Go.Proofs.YtaooojjhlngcmaaDoor
